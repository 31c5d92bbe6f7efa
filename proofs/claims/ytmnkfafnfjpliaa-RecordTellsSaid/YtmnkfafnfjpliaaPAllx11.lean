-- Written for this claim by wip/tools of this repo (after the kit's print; own contracts laid in).
import Derived.Test.YtmnkfafnfjpliaaPAllx0
import Derived.Test.YtmnkfafnfjpliaaPAllx1
import Derived.Test.YtmnkfafnfjpliaaPAllx10
namespace Go.Proofs.Ytmnkfafnfjpliaa.PAll
open Go.RowKit Go.Proofs.YtmnkfafnfjpliaaW.PrintWords Go.Proofs.YtmnkfafnfjpliaaW.PrintLast Go.Proofs.YtmnkfafnfjpliaaW.PrintMore
attribute [local go_sem] max2_int min2_int max_two min_two max_three min_three max_four min_four   -- for this text's walks alone
set_option linter.unusedVariables false
set_option linter.unusedSimpArgs false

attribute [local go_sem high] eqA44
/-! ### epactref12_Check: function 14 -/
mutual
def epactref12_Check.l0 : Nat → List (S44) → Int → Option (Int × Int)
  | 0, _, _ => none
  | k + 1, x0, x4 => if x4 < (x0.length : Int) then (if 0 ≤ x4 then ((epactref12_ahead.f x0 x4).bind fun t281 => ((epactref12_ahead.f x0 x4).bind fun t283 => ((epactref01_Sub.f ((rd_T44 x0 x4).f1) t283).bind fun bt284 => (if bt284.2 = true then (if bt284.1 = 1 then (epactref12_Check.j1 k x0 x4 (x4 == (wrap64 ((x0.length : Int) - 1))) (((rd_T44 x0 x4).f1) == t281) true) else (epactref12_Check.j1 k x0 x4 (x4 == (wrap64 ((x0.length : Int) - 1))) (((rd_T44 x0 x4).f1) == t281) (bt284.1 == (-1)))) else (epactref12_Check.j1 k x0 x4 (x4 == (wrap64 ((x0.length : Int) - 1))) (((rd_T44 x0 x4).f1) == t281) false))))) else (none)) else (some ((x0.length : Int), 0))
def epactref12_Check.j1 : Nat → List (S44) → Int → Bool → Bool → Bool → Option (Int × Int)
  | 0, _, _, _, _, _ => none
  | k + 1, x0, x4, x5, x6, x9 => if x4 > 200 then (some (x4, 8)) else (if 0 ≤ x4 then (if x4 < (x0.length : Int) then (if ((rd_T44 x0 x4).f0) < 0 then (some (x4, 9)) else (if x9 = true then (epactref12_Check.j2 k x0 x4 x6 false) else (if x5 = true then (epactref12_Check.j2 k x0 x4 x6 (!x6)) else (epactref12_Check.j2 k x0 x4 x6 (!false))))) else (none)) else (none))
def epactref12_Check.j2 : Nat → List (S44) → Int → Bool → Bool → Option (Int × Int)
  | 0, _, _, _, _ => none
  | k + 1, x0, x4, x6, x69 => if x69 = true then (some (x4, 6)) else (if x4 > 0 then (if x6 = true then (if 0 ≤ x4 then (if x4 < (x0.length : Int) then (if 0 ≤ (wrap64 (x4 - 1)) then (if (wrap64 (x4 - 1)) < (x0.length : Int) then (if ((rd_T44 x0 x4).f0) < ((rd_T44 x0 (wrap64 (x4 - 1))).f0) then (some (x4, 7)) else (epactref12_Check.l0 k x0 (wrap64 (x4 + 1)))) else (none)) else (none)) else (none)) else (none)) else (if 0 ≤ x4 then (if x4 < (x0.length : Int) then (if 0 ≤ (wrap64 (x4 - 1)) then (if (wrap64 (x4 - 1)) < (x0.length : Int) then (if (wrap64 (((rd_T44 x0 x4).f0) - ((rd_T44 x0 (wrap64 (x4 - 1))).f0))) < 2419199 then (some (x4, 7)) else (if ((rd_T44 x0 x4).f0) < ((rd_T44 x0 (wrap64 (x4 - 1))).f0) then (some (x4, 7)) else (epactref12_Check.l0 k x0 (wrap64 (x4 + 1))))) else (none)) else (none)) else (none)) else (none))) else (epactref12_Check.l0 k x0 (wrap64 (x4 + 1))))
end
def epactref12_Check.f (k : Nat) (l0 : List (S44)) : Option (Int × Int) := epactref12_Check.l0 k l0 0
theorem epactref12_Check.mono_l : ∀ k, (∀ y0 y1, LeO (epactref12_Check.l0 k y0 y1) (epactref12_Check.l0 (k + 1) y0 y1)) ∧ (∀ y0 y1 y2 y3 y4, LeO (epactref12_Check.j1 k y0 y1 y2 y3 y4) (epactref12_Check.j1 (k + 1) y0 y1 y2 y3 y4)) ∧ (∀ y0 y1 y2 y3, LeO (epactref12_Check.j2 k y0 y1 y2 y3) (epactref12_Check.j2 (k + 1) y0 y1 y2 y3))
  | 0 => ⟨fun _ _ r h => by simp [epactref12_Check.l0] at h, fun _ _ _ _ _ r h => by simp [epactref12_Check.j1] at h, fun _ _ _ _ r h => by simp [epactref12_Check.j2] at h⟩
  | k + 1 => by
    obtain ⟨ih0, ih1, ih2⟩ := epactref12_Check.mono_l k
    refine ⟨?_, ?_, ?_⟩
    · intro y0 y1
      unfold epactref12_Check.l0
      repeat' first
      | (with_reducible exact ih0 _ _)
      | (with_reducible exact ih1 _ _ _ _ _)
      | (with_reducible exact ih2 _ _ _ _)
      | (with_reducible exact LeO.refl _)
      | (with_reducible exact LeO.none _)
      | (with_reducible refine LeO.ite ?_ ?_)
      | (with_reducible refine LeO.bind ?_ (fun _ => ?_))
      | exact ih0 _ _
      | exact ih1 _ _ _ _ _
      | exact ih2 _ _ _ _
      | exact LeO.none _
      | refine LeO.ite ?_ ?_
      | refine LeO.bind ?_ (fun _ => ?_)
    · intro y0 y1 y2 y3 y4
      unfold epactref12_Check.j1
      repeat' first
      | (with_reducible exact ih0 _ _)
      | (with_reducible exact ih1 _ _ _ _ _)
      | (with_reducible exact ih2 _ _ _ _)
      | (with_reducible exact LeO.refl _)
      | (with_reducible exact LeO.none _)
      | (with_reducible refine LeO.ite ?_ ?_)
      | (with_reducible refine LeO.bind ?_ (fun _ => ?_))
      | exact ih0 _ _
      | exact ih1 _ _ _ _ _
      | exact ih2 _ _ _ _
      | exact LeO.none _
      | refine LeO.ite ?_ ?_
      | refine LeO.bind ?_ (fun _ => ?_)
    · intro y0 y1 y2 y3
      unfold epactref12_Check.j2
      repeat' first
      | (with_reducible exact ih0 _ _)
      | (with_reducible exact ih1 _ _ _ _ _)
      | (with_reducible exact ih2 _ _ _ _)
      | (with_reducible exact LeO.refl _)
      | (with_reducible exact LeO.none _)
      | (with_reducible refine LeO.ite ?_ ?_)
      | (with_reducible refine LeO.bind ?_ (fun _ => ?_))
      | exact ih0 _ _
      | exact ih1 _ _ _ _ _
      | exact ih2 _ _ _ _
      | exact LeO.none _
      | refine LeO.ite ?_ ?_
      | refine LeO.bind ?_ (fun _ => ?_)
theorem epactref12_Check.mono : ∀ a0 k, LeO (epactref12_Check.f k a0) (epactref12_Check.f (k + 1) a0) := by
  intro a0 k
  obtain ⟨ih0, ih1, ih2⟩ := epactref12_Check.mono_l k
  unfold epactref12_Check.f
  repeat' first
      | (with_reducible exact ih0 _ _)
      | (with_reducible exact ih1 _ _ _ _ _)
      | (with_reducible exact ih2 _ _ _ _)
      | (with_reducible exact LeO.refl _)
      | (with_reducible exact LeO.none _)
      | (with_reducible refine LeO.ite ?_ ?_)
      | (with_reducible refine LeO.bind ?_ (fun _ => ?_))
      | exact ih0 _ _
      | exact ih1 _ _ _ _ _
      | exact ih2 _ _ _ _
      | exact LeO.none _
      | refine LeO.ite ?_ ?_
      | refine LeO.bind ?_ (fun _ => ?_)
set_option maxHeartbeats 8000000 in
set_option maxRecDepth 100000 in
theorem epactref12_Check.calls (k : Nat) (A0 : Option Addr) (c0 : Nat) (l0 : List (S44)) (r1 : Int) (r2 : Int) (w : World) (hr0 : Kd.C k44 w A0 l0.length l0) (hc0 : l0.length ≤ c0) (h : epactref12_Check.f k l0 = some (r1, r2)) :
    Calls Try.prog 14 #[.slice A0 l0.length c0] w fun e w' => e = .returned (.tuple #[.int .i64 r1, .int .i64 r2]) ∧ Drawn0 w w' := by
  have HR0 := Aside0.mk hr0
  have HC0 := Aside0.mk hc0
  clear hr0 hc0
  have H : (epactref12_Check.l0 k l0 0) = some (r1, r2) := h
  clear h
  have H' := Aside0.mk H
  clear H
  go_enter Try.func14, Try.ntmps14
  go_wp2
  repeat (go_quiet (fail); try go_wp2)
  go_loopg [4] k (fun kq v4 w' => ∃ (x4_1 : Int), v4 = .int .i64 x4_1 ∧ Aside0 (epactref12_Check.l0 kq l0 x4_1 = some (r1, r2)) ∧ Aside0 (kq ≤ k) ∧ Drawn0 w w')
  case atStart => exact ⟨(0), (by first | rfl | (simp; done) | (simp [*]; done)), H', ⟨Nat.le_refl _⟩, by repeat (first | exact Drawn0.refl _ | apply Drawn0.step)⟩
  case round =>
    clear H'
    try clear c1
    obtain ⟨x4_1, rfl, HA, HK1, ⟨m1, rfl⟩⟩ := hrel
    cases gk with
    | zero => exact absurd HA.out (by simp [epactref12_Check.l0])
    | succ k1 =>
      have H := HA.out
      clear HA
      simp only [epactref12_Check.l0] at H
      by_cases c2 : x4_1 < (l0.length : Int)
      · rw [if_pos c2] at H
        have c2b0 : decide (x4_1 < (l0.length : Int)) = true := decide_eq_true c2
        clear c2
        by_cases c3 : 0 ≤ x4_1
        · rw [if_pos c3] at H
          have c3b0 : decide (0 ≤ x4_1) = true := decide_eq_true c3
          clear c3
          replace H := Option.bind_eq_some_iff.mp H
          obtain ⟨t281, A40, H⟩ := H
          replace H : ((epactref12_ahead.f l0 x4_1).bind fun t283 => ((epactref01_Sub.f ((rd_T44 l0 x4_1).f1) t283).bind fun bt284 => (if bt284.2 = true then (if bt284.1 = 1 then (epactref12_Check.j1 k1 l0 x4_1 (x4_1 == (wrap64 ((l0.length : Int) - 1))) (((rd_T44 l0 x4_1).f1) == t281) true) else (epactref12_Check.j1 k1 l0 x4_1 (x4_1 == (wrap64 ((l0.length : Int) - 1))) (((rd_T44 l0 x4_1).f1) == t281) (bt284.1 == (-1)))) else (epactref12_Check.j1 k1 l0 x4_1 (x4_1 == (wrap64 ((l0.length : Int) - 1))) (((rd_T44 l0 x4_1).f1) == t281) false)))) = some (r1, r2) := H
          have A4 := Aside0.mk A40
          clear A40
          replace H := Option.bind_eq_some_iff.mp H
          obtain ⟨t283, A50, H⟩ := H
          replace H : ((epactref01_Sub.f ((rd_T44 l0 x4_1).f1) t283).bind fun bt284 => (if bt284.2 = true then (if bt284.1 = 1 then (epactref12_Check.j1 k1 l0 x4_1 (x4_1 == (wrap64 ((l0.length : Int) - 1))) (((rd_T44 l0 x4_1).f1) == t281) true) else (epactref12_Check.j1 k1 l0 x4_1 (x4_1 == (wrap64 ((l0.length : Int) - 1))) (((rd_T44 l0 x4_1).f1) == t281) (bt284.1 == (-1)))) else (epactref12_Check.j1 k1 l0 x4_1 (x4_1 == (wrap64 ((l0.length : Int) - 1))) (((rd_T44 l0 x4_1).f1) == t281) false))) = some (r1, r2) := H
          have A5 := Aside0.mk A50
          clear A50
          (try (obtain rfl : t283 = t281 := Option.some.inj (A5.out.symm.trans A4.out)))
          replace H := Option.bind_eq_some_iff.mp H
          obtain ⟨⟨t284, t285⟩, A60, H⟩ := H
          replace H : (if t285 = true then (if t284 = 1 then (epactref12_Check.j1 k1 l0 x4_1 (x4_1 == (wrap64 ((l0.length : Int) - 1))) (((rd_T44 l0 x4_1).f1) == t283) true) else (epactref12_Check.j1 k1 l0 x4_1 (x4_1 == (wrap64 ((l0.length : Int) - 1))) (((rd_T44 l0 x4_1).f1) == t283) (t284 == (-1)))) else (epactref12_Check.j1 k1 l0 x4_1 (x4_1 == (wrap64 ((l0.length : Int) - 1))) (((rd_T44 l0 x4_1).f1) == t283) false)) = some (r1, r2) := H
          have A6 := Aside0.mk A60
          clear A60
          have HC7 := Aside0.mk H
          clear H
          have p280 : 0 ≤ (x4_1 : Int) := of_decide_eq_true (by first | (with_reducible assumption) | assumption)
          have q280 : x4_1 < (l0.length : Int) := of_decide_eq_true (by first | (with_reducible assumption) | assumption)
          obtain ⟨ad280, e280, hx280_0, hx280_1⟩ := at_T44 HR0.out x4_1 p280 q280
          cases e280
          replace p280 := eq_true p280
          replace q280 := eq_true q280
          go_upto_region 7 with (first | (go_at_call 35; (with_reducible refine (epactref12_ahead.calls _ _ l0 x4_1 t283 _ ?side1 ?side2 A4.out).mono ?_); (case side1 => repeat (first | exact HR0.out | (with_reducible refine Kd.C_alloc ?_ _) | (with_reducible refine Kd.C_drewN ?_ _) | (with_reducible refine Kd.C_drew ?_))); (case side2 => exact HC0.out); rintro e w' ⟨rfl, ⟨nd, rfl⟩⟩; (try first | exact ⟨rfl, _, World.drewN_drewN _ _ _⟩ | exact ⟨rfl, _, Eq.trans (World.drewN_drewN _ _ _) (congrArg (World.drewN _) (Nat.add_assoc _ _ _))⟩); have p282 : 0 ≤ (x4_1 : Int) := of_decide_eq_true (by first | (with_reducible assumption) | assumption); have q282 : x4_1 < (l0.length : Int) := of_decide_eq_true (by first | (with_reducible assumption) | assumption); obtain ⟨ad282, e282, hx282_0, hx282_1⟩ := at_T44 HR0.out x4_1 p282 q282; obtain rfl : ad280 = ad282 := (by injection e282); replace p282 := eq_true p282; replace q282 := eq_true q282) | (go_at_call 35; (with_reducible refine (epactref12_ahead.calls _ _ l0 x4_1 t283 _ ?side1 ?side2 A5.out).mono ?_); (case side1 => repeat (first | exact HR0.out | (with_reducible refine Kd.C_alloc ?_ _) | (with_reducible refine Kd.C_drewN ?_ _) | (with_reducible refine Kd.C_drew ?_))); (case side2 => exact HC0.out); rintro e w' ⟨rfl, ⟨nd, rfl⟩⟩; (try first | exact ⟨rfl, _, World.drewN_drewN _ _ _⟩ | exact ⟨rfl, _, Eq.trans (World.drewN_drewN _ _ _) (congrArg (World.drewN _) (Nat.add_assoc _ _ _))⟩)) | (go_at_call 36; (with_reducible refine (epactref01_Sub.calls ((rd_T44 l0 x4_1).f1) t283 t284 t285 _ A6.out).mono ?_); rintro e w' ⟨rfl, ⟨nd, rfl⟩⟩; (try first | exact ⟨rfl, _, World.drewN_drewN _ _ _⟩ | exact ⟨rfl, _, Eq.trans (World.drewN_drewN _ _ _) (congrArg (World.drewN _) (Nat.add_assoc _ _ _))⟩)))
          repeat (go_quiet (first | (go_at_call 35; (with_reducible refine (epactref12_ahead.calls _ _ l0 x4_1 t283 _ ?side1 ?side2 A4.out).mono ?_); (case side1 => repeat (first | exact HR0.out | (with_reducible refine Kd.C_alloc ?_ _) | (with_reducible refine Kd.C_drewN ?_ _) | (with_reducible refine Kd.C_drew ?_))); (case side2 => exact HC0.out); rintro e w' ⟨rfl, ⟨nd, rfl⟩⟩; (try first | exact ⟨rfl, _, World.drewN_drewN _ _ _⟩ | exact ⟨rfl, _, Eq.trans (World.drewN_drewN _ _ _) (congrArg (World.drewN _) (Nat.add_assoc _ _ _))⟩); have p282 : 0 ≤ (x4_1 : Int) := of_decide_eq_true (by first | (with_reducible assumption) | assumption); have q282 : x4_1 < (l0.length : Int) := of_decide_eq_true (by first | (with_reducible assumption) | assumption); obtain ⟨ad282, e282, hx282_0, hx282_1⟩ := at_T44 HR0.out x4_1 p282 q282; obtain rfl : ad280 = ad282 := (by injection e282); replace p282 := eq_true p282; replace q282 := eq_true q282) | (go_at_call 35; (with_reducible refine (epactref12_ahead.calls _ _ l0 x4_1 t283 _ ?side1 ?side2 A5.out).mono ?_); (case side1 => repeat (first | exact HR0.out | (with_reducible refine Kd.C_alloc ?_ _) | (with_reducible refine Kd.C_drewN ?_ _) | (with_reducible refine Kd.C_drew ?_))); (case side2 => exact HC0.out); rintro e w' ⟨rfl, ⟨nd, rfl⟩⟩; (try first | exact ⟨rfl, _, World.drewN_drewN _ _ _⟩ | exact ⟨rfl, _, Eq.trans (World.drewN_drewN _ _ _) (congrArg (World.drewN _) (Nat.add_assoc _ _ _))⟩)) | (go_at_call 36; (with_reducible refine (epactref01_Sub.calls ((rd_T44 l0 x4_1).f1) t283 t284 t285 _ A6.out).mono ?_); rintro e w' ⟨rfl, ⟨nd, rfl⟩⟩; (try first | exact ⟨rfl, _, World.drewN_drewN _ _ _⟩ | exact ⟨rfl, _, Eq.trans (World.drewN_drewN _ _ _) (congrArg (World.drewN _) (Nat.add_assoc _ _ _))⟩))); go_upto_region 7 with (first | (go_at_call 35; (with_reducible refine (epactref12_ahead.calls _ _ l0 x4_1 t283 _ ?side1 ?side2 A4.out).mono ?_); (case side1 => repeat (first | exact HR0.out | (with_reducible refine Kd.C_alloc ?_ _) | (with_reducible refine Kd.C_drewN ?_ _) | (with_reducible refine Kd.C_drew ?_))); (case side2 => exact HC0.out); rintro e w' ⟨rfl, ⟨nd, rfl⟩⟩; (try first | exact ⟨rfl, _, World.drewN_drewN _ _ _⟩ | exact ⟨rfl, _, Eq.trans (World.drewN_drewN _ _ _) (congrArg (World.drewN _) (Nat.add_assoc _ _ _))⟩); have p282 : 0 ≤ (x4_1 : Int) := of_decide_eq_true (by first | (with_reducible assumption) | assumption); have q282 : x4_1 < (l0.length : Int) := of_decide_eq_true (by first | (with_reducible assumption) | assumption); obtain ⟨ad282, e282, hx282_0, hx282_1⟩ := at_T44 HR0.out x4_1 p282 q282; obtain rfl : ad280 = ad282 := (by injection e282); replace p282 := eq_true p282; replace q282 := eq_true q282) | (go_at_call 35; (with_reducible refine (epactref12_ahead.calls _ _ l0 x4_1 t283 _ ?side1 ?side2 A5.out).mono ?_); (case side1 => repeat (first | exact HR0.out | (with_reducible refine Kd.C_alloc ?_ _) | (with_reducible refine Kd.C_drewN ?_ _) | (with_reducible refine Kd.C_drew ?_))); (case side2 => exact HC0.out); rintro e w' ⟨rfl, ⟨nd, rfl⟩⟩; (try first | exact ⟨rfl, _, World.drewN_drewN _ _ _⟩ | exact ⟨rfl, _, Eq.trans (World.drewN_drewN _ _ _) (congrArg (World.drewN _) (Nat.add_assoc _ _ _))⟩)) | (go_at_call 36; (with_reducible refine (epactref01_Sub.calls ((rd_T44 l0 x4_1).f1) t283 t284 t285 _ A6.out).mono ?_); rintro e w' ⟨rfl, ⟨nd, rfl⟩⟩; (try first | exact ⟨rfl, _, World.drewN_drewN _ _ _⟩ | exact ⟨rfl, _, Eq.trans (World.drewN_drewN _ _ _) (congrArg (World.drewN _) (Nat.add_assoc _ _ _))⟩))))
          (try simp only [Act.put, List.setIfInBounds_toArray, List.set_cons_zero, List.set_cons_succ])
          go_cut [9] (fun v9 wc => ∃ (kq : Nat) (x9_6 : Bool), v9 = .bool x9_6 ∧ Aside0 (epactref12_Check.j1 kq l0 x4_1 (x4_1 == (wrap64 ((l0.length : Int) - 1))) (((rd_T44 l0 x4_1).f1) == t283) x9_6 = some (r1, r2)) ∧ Aside0 (kq ≤ k1) ∧ Drawn0 w wc)
          case first =>
            have H := HC7.out
            clear HC7
            by_cases c8 : t285 = true
            · subst c8
              have H1 : (if t284 = 1 then (epactref12_Check.j1 k1 l0 x4_1 (x4_1 == (wrap64 ((l0.length : Int) - 1))) (((rd_T44 l0 x4_1).f1) == t283) true) else (epactref12_Check.j1 k1 l0 x4_1 (x4_1 == (wrap64 ((l0.length : Int) - 1))) (((rd_T44 l0 x4_1).f1) == t283) (t284 == (-1)))) = some (r1, r2) := by rw [if_pos rfl] at H; exact H
              clear H
              have H := H1
              clear H1
              by_cases c9 : t284 = 1
              · rw [if_pos c9] at H
                have c9b0 : (t284 == 1) = true := beq_iff_eq.mpr c9
                have c9b1 : (t284 != 1) = false := bne_eq_false_iff_eq.mpr c9
                clear c9
                (first | rw [c9b0] | (simp only [i64_w, i32_w]; rw [c9b0]) | skip)
                have H' := Aside0.mk H
                clear H
                go_wp2
                repeat (go_quiet (fail); try go_wp2)
                go_meet
                case rel => exact ⟨_, (true), (by first | rfl | (simp; done) | (simp [*]; done)), H', ⟨by have := HK1.out; first | omega | exact Nat.le_refl _⟩, by repeat (first | exact Drawn0.refl _ | apply Drawn0.step)⟩
              · rw [if_neg c9] at H
                have c9b0 : (t284 == 1) = false := beq_eq_false_iff_ne.mpr c9
                have c9b1 : (t284 != 1) = true := bne_iff_ne.mpr c9
                (first | rw [c9b0] | (simp only [i64_w, i32_w]; rw [c9b0]) | skip)
                have H' := Aside0.mk H
                clear H
                go_wp2
                repeat (go_quiet (fail); try go_wp2)
                go_meet
                case rel => exact ⟨_, ((t284 == (-1))), (by first | rfl | (simp; done) | (simp [*]; done)), H', ⟨by have := HK1.out; first | omega | exact Nat.le_refl _⟩, by repeat (first | exact Drawn0.refl _ | apply Drawn0.step)⟩
            · replace c8 := Bool.eq_false_iff.mpr c8
              subst c8
              have H1 : (epactref12_Check.j1 k1 l0 x4_1 (x4_1 == (wrap64 ((l0.length : Int) - 1))) (((rd_T44 l0 x4_1).f1) == t283) false) = some (r1, r2) := by rw [if_neg (show ¬ (false = true) by decide)] at H; exact H
              clear H
              have H := H1
              clear H1
              have H' := Aside0.mk H
              clear H
              go_wp2
              repeat (go_quiet (fail); try go_wp2)
              go_meet
              case rel => exact ⟨_, (false), (by first | rfl | (simp; done) | (simp [*]; done)), H', ⟨by have := HK1.out; first | omega | exact Nat.le_refl _⟩, by repeat (first | exact Drawn0.refl _ | apply Drawn0.step)⟩
          case rest =>
            clear HC7
            try clear c1
            try clear c2
            try clear c2b0
            try clear p2
            try clear q2
            try clear hx2
            try clear c3
            try clear c3b0
            try clear p6
            try clear c8
            try clear c9
            try clear c9b0
            try clear c9b1
            try clear hx280_0
            try clear hx280_1
            try clear hx282_0
            try clear hx282_1
            try clear p280
            try clear p282
            try clear q280
            try clear q282
            obtain ⟨kq, x9_6, rfl, HA, HJ6, ⟨mc6, rfl⟩⟩ := hcut
            cases kq with
            | zero => exact absurd HA.out (by simp [epactref12_Check.j1])
            | succ kj6 =>
              have H := HA.out
              clear HA
              simp only [epactref12_Check.j1] at H
              by_cases c10 : x4_1 > 200
              · rw [if_pos c10] at H
                have c10b0 : decide (200 < x4_1) = true := decide_eq_true c10
                clear c10
                simp only [Option.some.injEq, Prod.mk.injEq] at H
                obtain ⟨rfl, rfl⟩ := H
                go_wp2
                repeat (go_quiet (fail); try go_wp2)
                go_ret2
                exact ⟨by first | rfl | (simp; done) | (simp [*]; done), by repeat (first | exact Drawn0.refl _ | apply Drawn0.step)⟩
              · rw [if_neg c10] at H
                have c10b0 : decide (200 < x4_1) = false := decide_eq_false c10
                clear c10
                by_cases c11 : 0 ≤ x4_1
                · rw [if_pos c11] at H
                  have c11b0 : decide (0 ≤ x4_1) = true := decide_eq_true c11
                  clear c11
                  by_cases c12 : x4_1 < (l0.length : Int)
                  · rw [if_pos c12] at H
                    have c12b0 : decide (x4_1 < (l0.length : Int)) = true := decide_eq_true c12
                    clear c12
                    by_cases c13 : ((rd_T44 l0 x4_1).f0) < 0
                    · rw [if_pos c13] at H
                      have c13b0 : decide (((rd_T44 l0 x4_1).f0) < 0) = true := decide_eq_true c13
                      clear c13
                      simp only [Option.some.injEq, Prod.mk.injEq] at H
                      obtain ⟨rfl, rfl⟩ := H
                      have p286 : 0 ≤ (x4_1 : Int) := of_decide_eq_true (by first | (with_reducible assumption) | assumption)
                      have q286 : x4_1 < (l0.length : Int) := of_decide_eq_true (by first | (with_reducible assumption) | assumption)
                      obtain ⟨ad286, e286, hx286_0, hx286_1⟩ := at_T44 HR0.out x4_1 p286 q286
                      obtain rfl : ad280 = ad286 := (by injection e286)
                      replace p286 := eq_true p286
                      replace q286 := eq_true q286
                      go_wp2
                      repeat (go_quiet (fail); try go_wp2)
                      go_ret2
                      exact ⟨by first | rfl | (simp; done) | (simp [*]; done), by repeat (first | exact Drawn0.refl _ | apply Drawn0.step)⟩
                    · rw [if_neg c13] at H
                      have c13b0 : decide (((rd_T44 l0 x4_1).f0) < 0) = false := decide_eq_false c13
                      clear c13
                      have HC14 := Aside0.mk H
                      clear H
                      have p286 : 0 ≤ (x4_1 : Int) := of_decide_eq_true (by first | (with_reducible assumption) | assumption)
                      have q286 : x4_1 < (l0.length : Int) := of_decide_eq_true (by first | (with_reducible assumption) | assumption)
                      obtain ⟨ad286, e286, hx286_0, hx286_1⟩ := at_T44 HR0.out x4_1 p286 q286
                      obtain rfl : ad280 = ad286 := (by injection e286)
                      replace p286 := eq_true p286
                      replace q286 := eq_true q286
                      go_upto_region 12 with (fail)
                      repeat (go_quiet (fail); go_upto_region 12 with (fail))
                      go_cut [69] (fun v69 wc => ∃ (kq : Nat) (x69_13 : Bool), v69 = .bool x69_13 ∧ Aside0 (epactref12_Check.j2 kq l0 x4_1 (((rd_T44 l0 x4_1).f1) == t283) x69_13 = some (r1, r2)) ∧ Aside0 (kq ≤ kj6) ∧ Drawn0 w wc)
                      case first =>
                        have H := HC14.out
                        clear HC14
                        by_cases c15 : x9_6 = true
                        · subst c15
                          have H1 : (epactref12_Check.j2 kj6 l0 x4_1 (((rd_T44 l0 x4_1).f1) == t283) false) = some (r1, r2) := by rw [if_pos rfl] at H; exact H
                          clear H
                          have H := H1
                          clear H1
                          have H' := Aside0.mk H
                          clear H
                          go_wp2
                          repeat (go_quiet (fail); try go_wp2)
                          go_meet
                          case rel => exact ⟨_, (false), (by first | rfl | (simp; done) | (simp [*]; done)), H', ⟨by have := HK1.out; have := HJ6.out; first | omega | exact Nat.le_refl _⟩, by repeat (first | exact Drawn0.refl _ | apply Drawn0.step)⟩
                        · replace c15 := Bool.eq_false_iff.mpr c15
                          subst c15
                          have H1 : (if (x4_1 == (wrap64 ((l0.length : Int) - 1))) = true then (epactref12_Check.j2 kj6 l0 x4_1 (((rd_T44 l0 x4_1).f1) == t283) (!(((rd_T44 l0 x4_1).f1) == t283))) else (epactref12_Check.j2 kj6 l0 x4_1 (((rd_T44 l0 x4_1).f1) == t283) (!false))) = some (r1, r2) := by rw [if_neg (show ¬ (false = true) by decide)] at H; exact H
                          clear H
                          have H := H1
                          clear H1
                          by_cases c16 : (x4_1 == (wrap64 ((l0.length : Int) - 1))) = true
                          · rw [if_pos c16] at H
                            have c16b0 : (x4_1 == (wrap64 ((l0.length : Int) - 1))) = true := c16
                            (try (have c16b1 : decide (x4_1 = (wrap64 ((l0.length : Int) - 1))) = true := by first | (simp; done) | (simp at c16; done) | simpa using c16))
                            (try (have c16b2 : (x4_1 == (wrap64 ((l0.length : Int) - 1))) = true := by first | (simp; done) | (simp at c16; done) | simpa using c16))
                            clear c16
                            (first | rw [c16b0] | (simp only [i64_w, i32_w]; rw [c16b0]) | skip)
                            have H' := Aside0.mk H
                            clear H
                            go_wp2
                            repeat (go_quiet (fail); try go_wp2)
                            (first | go_meet | (simp only [c16b0] at *; go_meet))
                            case rel => first | exact ⟨_, (!(((rd_T44 l0 x4_1).f1) == t283)), (by first | rfl | (simp; done) | (simp [*]; done)), H', ⟨by have := HK1.out; have := HJ6.out; first | omega | exact Nat.le_refl _⟩, by repeat (first | exact Drawn0.refl _ | apply Drawn0.step)⟩ | (simp only [c16b0]; exact ⟨_, (!(((rd_T44 l0 x4_1).f1) == t283)), (by first | rfl | (simp; done) | (simp [*]; done)), H', ⟨by have := HK1.out; have := HJ6.out; first | omega | exact Nat.le_refl _⟩, by repeat (first | exact Drawn0.refl _ | apply Drawn0.step)⟩)
                          · rw [if_neg c16] at H
                            have c16b0 : (x4_1 == (wrap64 ((l0.length : Int) - 1))) = false := by first | (simp; done) | (simp at c16; done) | simpa using c16
                            (try (have c16b1 : decide (x4_1 = (wrap64 ((l0.length : Int) - 1))) = false := by first | (simp; done) | (simp at c16; done) | simpa using c16))
                            (try (have c16b2 : (x4_1 == (wrap64 ((l0.length : Int) - 1))) = false := by first | (simp; done) | (simp at c16; done) | simpa using c16))
                            (try (have c16b3 : ¬ (x4_1 = (wrap64 ((l0.length : Int) - 1))) := by first | (simp; done) | (simp at c16; done) | simpa using c16))
                            clear c16
                            (first | rw [c16b0] | (simp only [i64_w, i32_w]; rw [c16b0]) | skip)
                            have H' := Aside0.mk H
                            clear H
                            go_wp2
                            repeat (go_quiet (fail); try go_wp2)
                            (first | go_meet | (simp only [c16b0] at *; go_meet))
                            case rel => first | exact ⟨_, (!false), (by first | rfl | (simp; done) | (simp [*]; done)), H', ⟨by have := HK1.out; have := HJ6.out; first | omega | exact Nat.le_refl _⟩, by repeat (first | exact Drawn0.refl _ | apply Drawn0.step)⟩ | (simp only [c16b0]; exact ⟨_, (!false), (by first | rfl | (simp; done) | (simp [*]; done)), H', ⟨by have := HK1.out; have := HJ6.out; first | omega | exact Nat.le_refl _⟩, by repeat (first | exact Drawn0.refl _ | apply Drawn0.step)⟩)
                      case rest =>
                        clear HC14
                        try clear c1
                        try clear c2
                        try clear c2b0
                        try clear p2
                        try clear q2
                        try clear hx2
                        try clear c3
                        try clear c3b0
                        try clear c6
                        try clear p6
                        try clear c8
                        try clear c9
                        try clear c9b0
                        try clear c9b1
                        try clear c10
                        try clear c10b0
                        try clear c11
                        try clear c11b0
                        try clear c12
                        try clear c12b0
                        try clear c13
                        try clear c13b0
                        try clear c14
                        try clear c15
                        try clear c16
                        try clear c16b0
                        try clear c16b1
                        try clear c16b2
                        try clear hx280_0
                        try clear hx280_1
                        try clear hx282_0
                        try clear hx282_1
                        try clear hx286_0
                        try clear hx286_1
                        try clear p2
                        try clear p280
                        try clear p282
                        try clear p286
                        try clear p6
                        try clear q2
                        try clear q280
                        try clear q282
                        try clear q286
                        obtain ⟨kq, x69_13, rfl, HA, HJ13, ⟨mc13, rfl⟩⟩ := hcut
                        cases kq with
                        | zero => exact absurd HA.out (by simp [epactref12_Check.j2])
                        | succ kj13 =>
                          have H := HA.out
                          clear HA
                          simp only [epactref12_Check.j2] at H
                          by_cases c17 : x69_13 = true
                          · subst c17
                            have H1 : (some (x4_1, 6)) = some (r1, r2) := by rw [if_pos rfl] at H; exact H
                            clear H
                            have H := H1
                            clear H1
                            simp only [Option.some.injEq, Prod.mk.injEq] at H
                            obtain ⟨rfl, rfl⟩ := H
                            go_wp2
                            repeat (go_quiet (fail); try go_wp2)
                            go_ret2
                            exact ⟨by first | rfl | (simp; done) | (simp [*]; done), by repeat (first | exact Drawn0.refl _ | apply Drawn0.step)⟩
                          · replace c17 := Bool.eq_false_iff.mpr c17
                            subst c17
                            have H1 : (if x4_1 > 0 then (if (((rd_T44 l0 x4_1).f1) == t283) = true then (if 0 ≤ x4_1 then (if x4_1 < (l0.length : Int) then (if 0 ≤ (wrap64 (x4_1 - 1)) then (if (wrap64 (x4_1 - 1)) < (l0.length : Int) then (if ((rd_T44 l0 x4_1).f0) < ((rd_T44 l0 (wrap64 (x4_1 - 1))).f0) then (some (x4_1, 7)) else (epactref12_Check.l0 kj13 l0 (wrap64 (x4_1 + 1)))) else (none)) else (none)) else (none)) else (none)) else (if 0 ≤ x4_1 then (if x4_1 < (l0.length : Int) then (if 0 ≤ (wrap64 (x4_1 - 1)) then (if (wrap64 (x4_1 - 1)) < (l0.length : Int) then (if (wrap64 (((rd_T44 l0 x4_1).f0) - ((rd_T44 l0 (wrap64 (x4_1 - 1))).f0))) < 2419199 then (some (x4_1, 7)) else (if ((rd_T44 l0 x4_1).f0) < ((rd_T44 l0 (wrap64 (x4_1 - 1))).f0) then (some (x4_1, 7)) else (epactref12_Check.l0 kj13 l0 (wrap64 (x4_1 + 1))))) else (none)) else (none)) else (none)) else (none))) else (epactref12_Check.l0 kj13 l0 (wrap64 (x4_1 + 1)))) = some (r1, r2) := by rw [if_neg (show ¬ (false = true) by decide)] at H; exact H
                            clear H
                            have H := H1
                            clear H1
                            by_cases c18 : x4_1 > 0
                            · rw [if_pos c18] at H
                              have c18b0 : decide (0 < x4_1) = true := decide_eq_true c18
                              clear c18
                              by_cases c19 : (((rd_T44 l0 x4_1).f1) == t283) = true
                              · rw [if_pos c19] at H
                                have c19b0 : (((rd_T44 l0 x4_1).f1) == t283) = true := c19
                                (try (have c19b1 : decide (((rd_T44 l0 x4_1).f1) = t283) = true := by first | (simp; done) | (simp at c19; done) | simpa using c19))
                                (try (have c19b2 : (((rd_T44 l0 x4_1).f1) == t283) = true := by first | (simp; done) | (simp at c19; done) | simpa using c19))
                                clear c19
                                by_cases c20 : 0 ≤ x4_1
                                · rw [if_pos c20] at H
                                  have c20b0 : decide (0 ≤ x4_1) = true := decide_eq_true c20
                                  clear c20
                                  by_cases c21 : x4_1 < (l0.length : Int)
                                  · rw [if_pos c21] at H
                                    have c21b0 : decide (x4_1 < (l0.length : Int)) = true := decide_eq_true c21
                                    clear c21
                                    obtain ⟨ji22, hji22⟩ : ∃ j_ : Int, (wrap64 (x4_1 - 1)) = j_ := ⟨_, rfl⟩
                                    replace H : (if 0 ≤ (ji22) then (if (ji22) < (l0.length : Int) then (if ((rd_T44 l0 x4_1).f0) < ((rd_T44 l0 (ji22)).f0) then (some (x4_1, 7)) else (epactref12_Check.l0 kj13 l0 (wrap64 (x4_1 + 1)))) else (none)) else (none)) = some (r1, r2) := by first | (rw [hji22] at H; exact H) | (simp only [hji22] at H ⊢; exact H)
                                    have hji22w : (IntKind.i64.wrap (x4_1 - 1)) = ji22 := (i64_w _).trans hji22
                                    by_cases c23 : 0 ≤ (ji22)
                                    · rw [if_pos c23] at H
                                      have c23b0 : decide (0 ≤ (ji22)) = true := decide_eq_true c23
                                      clear c23
                                      by_cases c24 : (ji22) < (l0.length : Int)
                                      · rw [if_pos c24] at H
                                        have c24b0 : decide ((ji22) < (l0.length : Int)) = true := decide_eq_true c24
                                        clear c24
                                        by_cases c25 : ((rd_T44 l0 x4_1).f0) < ((rd_T44 l0 (ji22)).f0)
                                        · rw [if_pos c25] at H
                                          have c25b0 : decide (((rd_T44 l0 x4_1).f0) < ((rd_T44 l0 (ji22)).f0)) = true := decide_eq_true c25
                                          clear c25
                                          simp only [Option.some.injEq, Prod.mk.injEq] at H
                                          obtain ⟨rfl, rfl⟩ := H
                                          have p287 : 0 ≤ (x4_1 : Int) := of_decide_eq_true (by first | (with_reducible assumption) | assumption)
                                          have q287 : x4_1 < (l0.length : Int) := of_decide_eq_true (by first | (with_reducible assumption) | assumption)
                                          obtain ⟨ad287, e287, hx287_0, hx287_1⟩ := at_T44 HR0.out x4_1 p287 q287
                                          obtain rfl : ad280 = ad287 := (by injection e287)
                                          replace p287 := eq_true p287
                                          replace q287 := eq_true q287
                                          have p288 : 0 ≤ ((ji22) : Int) := of_decide_eq_true (by first | (with_reducible assumption) | assumption)
                                          have q288 : (ji22) < (l0.length : Int) := of_decide_eq_true (by first | (with_reducible assumption) | assumption)
                                          obtain ⟨ad288, e288, hx288_0, hx288_1⟩ := at_T44 HR0.out (ji22) p288 q288
                                          obtain rfl : ad280 = ad288 := (by injection e288)
                                          replace p288 := eq_true p288
                                          replace q288 := eq_true q288
                                          go_wp2
                                          repeat (go_quiet (fail); try go_wp2)
                                          go_ret2
                                          exact ⟨by first | rfl | (simp; done) | (simp only [← hji22] <;> (first | rfl | simp)) | (simp [*]; done), by repeat (first | exact Drawn0.refl _ | apply Drawn0.step)⟩
                                        · rw [if_neg c25] at H
                                          have c25b0 : decide (((rd_T44 l0 x4_1).f0) < ((rd_T44 l0 (ji22)).f0)) = false := decide_eq_false c25
                                          clear c25
                                          have H' := Aside0.mk H
                                          clear H
                                          have p287 : 0 ≤ (x4_1 : Int) := of_decide_eq_true (by first | (with_reducible assumption) | assumption)
                                          have q287 : x4_1 < (l0.length : Int) := of_decide_eq_true (by first | (with_reducible assumption) | assumption)
                                          obtain ⟨ad287, e287, hx287_0, hx287_1⟩ := at_T44 HR0.out x4_1 p287 q287
                                          obtain rfl : ad280 = ad287 := (by injection e287)
                                          replace p287 := eq_true p287
                                          replace q287 := eq_true q287
                                          have p288 : 0 ≤ ((ji22) : Int) := of_decide_eq_true (by first | (with_reducible assumption) | assumption)
                                          have q288 : (ji22) < (l0.length : Int) := of_decide_eq_true (by first | (with_reducible assumption) | assumption)
                                          obtain ⟨ad288, e288, hx288_0, hx288_1⟩ := at_T44 HR0.out (ji22) p288 q288
                                          obtain rfl : ad280 = ad288 := (by injection e288)
                                          replace p288 := eq_true p288
                                          replace q288 := eq_true q288
                                          go_wp2
                                          repeat (go_quiet (fail); try go_wp2)
                                          go_roundg kj13
                                          case measure => have := HK1.out; have := HJ6.out; have := HJ13.out; omega
                                          case rel => exact ⟨(wrap64 (x4_1 + 1)), (by first | rfl | (simp; done) | (simp [*]; done)), H', ⟨by have := HK1.out; have := HJ6.out; have := HJ13.out; omega⟩, by repeat (first | exact Drawn0.refl _ | apply Drawn0.step)⟩
                                      · rw [if_neg c24] at H
                                        exact absurd H (by simp)
                                    · rw [if_neg c23] at H
                                      exact absurd H (by simp)
                                  · rw [if_neg c21] at H
                                    exact absurd H (by simp)
                                · rw [if_neg c20] at H
                                  exact absurd H (by simp)
                              · rw [if_neg c19] at H
                                have c19b0 : (((rd_T44 l0 x4_1).f1) == t283) = false := by first | (simp; done) | (simp at c19; done) | simpa using c19
                                (try (have c19b1 : decide (((rd_T44 l0 x4_1).f1) = t283) = false := by first | (simp; done) | (simp at c19; done) | simpa using c19))
                                (try (have c19b2 : (((rd_T44 l0 x4_1).f1) == t283) = false := by first | (simp; done) | (simp at c19; done) | simpa using c19))
                                (try (have c19b3 : ¬ (((rd_T44 l0 x4_1).f1) = t283) := by first | (simp; done) | (simp at c19; done) | simpa using c19))
                                clear c19
                                by_cases c26 : 0 ≤ x4_1
                                · rw [if_pos c26] at H
                                  have c26b0 : decide (0 ≤ x4_1) = true := decide_eq_true c26
                                  clear c26
                                  by_cases c27 : x4_1 < (l0.length : Int)
                                  · rw [if_pos c27] at H
                                    have c27b0 : decide (x4_1 < (l0.length : Int)) = true := decide_eq_true c27
                                    clear c27
                                    obtain ⟨ji28, hji28⟩ : ∃ j_ : Int, (wrap64 (x4_1 - 1)) = j_ := ⟨_, rfl⟩
                                    replace H : (if 0 ≤ (ji28) then (if (ji28) < (l0.length : Int) then (if (wrap64 (((rd_T44 l0 x4_1).f0) - ((rd_T44 l0 (ji28)).f0))) < 2419199 then (some (x4_1, 7)) else (if ((rd_T44 l0 x4_1).f0) < ((rd_T44 l0 (ji28)).f0) then (some (x4_1, 7)) else (epactref12_Check.l0 kj13 l0 (wrap64 (x4_1 + 1))))) else (none)) else (none)) = some (r1, r2) := by first | (rw [hji28] at H; exact H) | (simp only [hji28] at H ⊢; exact H)
                                    have hji28w : (IntKind.i64.wrap (x4_1 - 1)) = ji28 := (i64_w _).trans hji28
                                    by_cases c29 : 0 ≤ (ji28)
                                    · rw [if_pos c29] at H
                                      have c29b0 : decide (0 ≤ (ji28)) = true := decide_eq_true c29
                                      clear c29
                                      by_cases c30 : (ji28) < (l0.length : Int)
                                      · rw [if_pos c30] at H
                                        have c30b0 : decide ((ji28) < (l0.length : Int)) = true := decide_eq_true c30
                                        clear c30
                                        by_cases c31 : (wrap64 (((rd_T44 l0 x4_1).f0) - ((rd_T44 l0 (ji28)).f0))) < 2419199
                                        · rw [if_pos c31] at H
                                          have c31b0 : decide ((wrap64 (((rd_T44 l0 x4_1).f0) - ((rd_T44 l0 (ji28)).f0))) < 2419199) = true := decide_eq_true c31
                                          clear c31
                                          simp only [Option.some.injEq, Prod.mk.injEq] at H
                                          obtain ⟨rfl, rfl⟩ := H
                                          have p289 : 0 ≤ (x4_1 : Int) := of_decide_eq_true (by first | (with_reducible assumption) | assumption)
                                          have q289 : x4_1 < (l0.length : Int) := of_decide_eq_true (by first | (with_reducible assumption) | assumption)
                                          obtain ⟨ad289, e289, hx289_0, hx289_1⟩ := at_T44 HR0.out x4_1 p289 q289
                                          obtain rfl : ad280 = ad289 := (by injection e289)
                                          replace p289 := eq_true p289
                                          replace q289 := eq_true q289
                                          have p290 : 0 ≤ ((ji28) : Int) := of_decide_eq_true (by first | (with_reducible assumption) | assumption)
                                          have q290 : (ji28) < (l0.length : Int) := of_decide_eq_true (by first | (with_reducible assumption) | assumption)
                                          obtain ⟨ad290, e290, hx290_0, hx290_1⟩ := at_T44 HR0.out (ji28) p290 q290
                                          obtain rfl : ad280 = ad290 := (by injection e290)
                                          replace p290 := eq_true p290
                                          replace q290 := eq_true q290
                                          go_wp2
                                          repeat (go_quiet (fail); try go_wp2)
                                          go_ret2
                                          exact ⟨by first | rfl | (simp; done) | (simp only [← hji28] <;> (first | rfl | simp)) | (simp [*]; done), by repeat (first | exact Drawn0.refl _ | apply Drawn0.step)⟩
                                        · rw [if_neg c31] at H
                                          have c31b0 : decide ((wrap64 (((rd_T44 l0 x4_1).f0) - ((rd_T44 l0 (ji28)).f0))) < 2419199) = false := decide_eq_false c31
                                          clear c31
                                          by_cases c32 : ((rd_T44 l0 x4_1).f0) < ((rd_T44 l0 (ji28)).f0)
                                          · rw [if_pos c32] at H
                                            have c32b0 : decide (((rd_T44 l0 x4_1).f0) < ((rd_T44 l0 (ji28)).f0)) = true := decide_eq_true c32
                                            clear c32
                                            simp only [Option.some.injEq, Prod.mk.injEq] at H
                                            obtain ⟨rfl, rfl⟩ := H
                                            have p289 : 0 ≤ (x4_1 : Int) := of_decide_eq_true (by first | (with_reducible assumption) | assumption)
                                            have q289 : x4_1 < (l0.length : Int) := of_decide_eq_true (by first | (with_reducible assumption) | assumption)
                                            obtain ⟨ad289, e289, hx289_0, hx289_1⟩ := at_T44 HR0.out x4_1 p289 q289
                                            obtain rfl : ad280 = ad289 := (by injection e289)
                                            replace p289 := eq_true p289
                                            replace q289 := eq_true q289
                                            have p290 : 0 ≤ ((ji28) : Int) := of_decide_eq_true (by first | (with_reducible assumption) | assumption)
                                            have q290 : (ji28) < (l0.length : Int) := of_decide_eq_true (by first | (with_reducible assumption) | assumption)
                                            obtain ⟨ad290, e290, hx290_0, hx290_1⟩ := at_T44 HR0.out (ji28) p290 q290
                                            obtain rfl : ad280 = ad290 := (by injection e290)
                                            replace p290 := eq_true p290
                                            replace q290 := eq_true q290
                                            have p291 : 0 ≤ (x4_1 : Int) := of_decide_eq_true (by first | (with_reducible assumption) | assumption)
                                            have q291 : x4_1 < (l0.length : Int) := of_decide_eq_true (by first | (with_reducible assumption) | assumption)
                                            obtain ⟨ad291, e291, hx291_0, hx291_1⟩ := at_T44 HR0.out x4_1 p291 q291
                                            obtain rfl : ad280 = ad291 := (by injection e291)
                                            replace p291 := eq_true p291
                                            replace q291 := eq_true q291
                                            have p292 : 0 ≤ ((ji28) : Int) := of_decide_eq_true (by first | (with_reducible assumption) | assumption)
                                            have q292 : (ji28) < (l0.length : Int) := of_decide_eq_true (by first | (with_reducible assumption) | assumption)
                                            obtain ⟨ad292, e292, hx292_0, hx292_1⟩ := at_T44 HR0.out (ji28) p292 q292
                                            obtain rfl : ad280 = ad292 := (by injection e292)
                                            replace p292 := eq_true p292
                                            replace q292 := eq_true q292
                                            go_wp2
                                            repeat (go_quiet (fail); try go_wp2)
                                            go_ret2
                                            exact ⟨by first | rfl | (simp; done) | (simp only [← hji28] <;> (first | rfl | simp)) | (simp [*]; done), by repeat (first | exact Drawn0.refl _ | apply Drawn0.step)⟩
                                          · rw [if_neg c32] at H
                                            have c32b0 : decide (((rd_T44 l0 x4_1).f0) < ((rd_T44 l0 (ji28)).f0)) = false := decide_eq_false c32
                                            clear c32
                                            have H' := Aside0.mk H
                                            clear H
                                            have p289 : 0 ≤ (x4_1 : Int) := of_decide_eq_true (by first | (with_reducible assumption) | assumption)
                                            have q289 : x4_1 < (l0.length : Int) := of_decide_eq_true (by first | (with_reducible assumption) | assumption)
                                            obtain ⟨ad289, e289, hx289_0, hx289_1⟩ := at_T44 HR0.out x4_1 p289 q289
                                            obtain rfl : ad280 = ad289 := (by injection e289)
                                            replace p289 := eq_true p289
                                            replace q289 := eq_true q289
                                            have p290 : 0 ≤ ((ji28) : Int) := of_decide_eq_true (by first | (with_reducible assumption) | assumption)
                                            have q290 : (ji28) < (l0.length : Int) := of_decide_eq_true (by first | (with_reducible assumption) | assumption)
                                            obtain ⟨ad290, e290, hx290_0, hx290_1⟩ := at_T44 HR0.out (ji28) p290 q290
                                            obtain rfl : ad280 = ad290 := (by injection e290)
                                            replace p290 := eq_true p290
                                            replace q290 := eq_true q290
                                            have p291 : 0 ≤ (x4_1 : Int) := of_decide_eq_true (by first | (with_reducible assumption) | assumption)
                                            have q291 : x4_1 < (l0.length : Int) := of_decide_eq_true (by first | (with_reducible assumption) | assumption)
                                            obtain ⟨ad291, e291, hx291_0, hx291_1⟩ := at_T44 HR0.out x4_1 p291 q291
                                            obtain rfl : ad280 = ad291 := (by injection e291)
                                            replace p291 := eq_true p291
                                            replace q291 := eq_true q291
                                            have p292 : 0 ≤ ((ji28) : Int) := of_decide_eq_true (by first | (with_reducible assumption) | assumption)
                                            have q292 : (ji28) < (l0.length : Int) := of_decide_eq_true (by first | (with_reducible assumption) | assumption)
                                            obtain ⟨ad292, e292, hx292_0, hx292_1⟩ := at_T44 HR0.out (ji28) p292 q292
                                            obtain rfl : ad280 = ad292 := (by injection e292)
                                            replace p292 := eq_true p292
                                            replace q292 := eq_true q292
                                            go_wp2
                                            repeat (go_quiet (fail); try go_wp2)
                                            go_roundg kj13
                                            case measure => have := HK1.out; have := HJ6.out; have := HJ13.out; omega
                                            case rel => exact ⟨(wrap64 (x4_1 + 1)), (by first | rfl | (simp; done) | (simp [*]; done)), H', ⟨by have := HK1.out; have := HJ6.out; have := HJ13.out; omega⟩, by repeat (first | exact Drawn0.refl _ | apply Drawn0.step)⟩
                                      · rw [if_neg c30] at H
                                        exact absurd H (by simp)
                                    · rw [if_neg c29] at H
                                      exact absurd H (by simp)
                                  · rw [if_neg c27] at H
                                    exact absurd H (by simp)
                                · rw [if_neg c26] at H
                                  exact absurd H (by simp)
                            · rw [if_neg c18] at H
                              have c18b0 : decide (0 < x4_1) = false := decide_eq_false c18
                              clear c18
                              have H' := Aside0.mk H
                              clear H
                              go_wp2
                              repeat (go_quiet (fail); try go_wp2)
                              go_roundg kj13
                              case measure => have := HK1.out; have := HJ6.out; have := HJ13.out; omega
                              case rel => exact ⟨(wrap64 (x4_1 + 1)), (by first | rfl | (simp; done) | (simp [*]; done)), H', ⟨by have := HK1.out; have := HJ6.out; have := HJ13.out; omega⟩, by repeat (first | exact Drawn0.refl _ | apply Drawn0.step)⟩
                  · rw [if_neg c12] at H
                    exact absurd H (by simp)
                · rw [if_neg c11] at H
                  exact absurd H (by simp)
        · rw [if_neg c3] at H
          exact absurd H (by simp)
      · rw [if_neg c2] at H
        have c2b0 : decide (x4_1 < (l0.length : Int)) = false := decide_eq_false c2
        clear c2
        simp only [Option.some.injEq, Prod.mk.injEq] at H
        obtain ⟨rfl, rfl⟩ := H
        go_wp2
        repeat (go_quiet (fail); try go_wp2)
        go_ret2
        exact ⟨by first | rfl | (simp; done) | (simp [*]; done), by repeat (first | exact Drawn0.refl _ | apply Drawn0.step)⟩

/-! ### epactref12_Same: function 15 -/
def epactref12_Same.l0 : Nat → List (S44) → List (S44) → Int → Option (Bool)
  | 0, _, _, _ => none
  | k + 1, x0, x1, x5 => if x5 < (x0.length : Int) then (if 0 ≤ x5 then (if x5 < (x1.length : Int) then (if (!(((rd_T44 x0 x5).f0) == ((rd_T44 x1 x5).f0)) || (!(((rd_T44 x0 x5).f1) == ((rd_T44 x1 x5).f1)))) = true then (some false) else (epactref12_Same.l0 k x0 x1 (wrap64 (x5 + 1)))) else (none)) else (none)) else (some true)
def epactref12_Same.f (k : Nat) (l0 : List (S44)) (l1 : List (S44)) : Option (Bool) := if (l0.length : Int) = (l1.length : Int) then (epactref12_Same.l0 k l0 l1 0) else (some false)
theorem epactref12_Same.mono_l : ∀ k, (∀ y0 y1 y2, LeO (epactref12_Same.l0 k y0 y1 y2) (epactref12_Same.l0 (k + 1) y0 y1 y2))
  | 0 => fun _ _ _ r h => by simp [epactref12_Same.l0] at h
  | k + 1 => by
    have ih0 := epactref12_Same.mono_l k
    · intro y0 y1 y2
      unfold epactref12_Same.l0
      repeat' first
      | (with_reducible exact ih0 _ _ _)
      | (with_reducible exact LeO.refl _)
      | (with_reducible exact LeO.none _)
      | (with_reducible refine LeO.ite ?_ ?_)
      | (with_reducible refine LeO.bind ?_ (fun _ => ?_))
      | exact ih0 _ _ _
      | exact LeO.none _
      | refine LeO.ite ?_ ?_
      | refine LeO.bind ?_ (fun _ => ?_)
theorem epactref12_Same.mono : ∀ a0 a1 k, LeO (epactref12_Same.f k a0 a1) (epactref12_Same.f (k + 1) a0 a1) := by
  intro a0 a1 k
  have ih0 := epactref12_Same.mono_l k
  unfold epactref12_Same.f
  repeat' first
      | (with_reducible exact ih0 _ _ _)
      | (with_reducible exact LeO.refl _)
      | (with_reducible exact LeO.none _)
      | (with_reducible refine LeO.ite ?_ ?_)
      | (with_reducible refine LeO.bind ?_ (fun _ => ?_))
      | exact ih0 _ _ _
      | exact LeO.none _
      | refine LeO.ite ?_ ?_
      | refine LeO.bind ?_ (fun _ => ?_)
set_option maxHeartbeats 8000000 in
set_option maxRecDepth 100000 in
theorem epactref12_Same.calls (k : Nat) (A0 : Option Addr) (c0 : Nat) (l0 : List (S44)) (A1 : Option Addr) (c1 : Nat) (l1 : List (S44)) (r : Bool) (w : World) (hr0 : Kd.C k44 w A0 l0.length l0) (hc0 : l0.length ≤ c0) (hr1 : Kd.C k44 w A1 l1.length l1) (hc1 : l1.length ≤ c1) (h : epactref12_Same.f k l0 l1 = some r) :
    Calls Try.prog 15 #[.slice A0 l0.length c0, .slice A1 l1.length c1] w fun e w' => e = .returned (.bool r) ∧ Drawn0 w w' := by
  have hu44 := Try.underlying44
  have HR0 := Aside0.mk hr0
  have HC0 := Aside0.mk hc0
  clear hr0 hc0
  have HR1 := Aside0.mk hr1
  have HC1 := Aside0.mk hc1
  clear hr1 hc1
  have H : (if (l0.length : Int) = (l1.length : Int) then (epactref12_Same.l0 k l0 l1 0) else (some false)) = some r := h
  clear h
  by_cases c3 : (l0.length : Int) = (l1.length : Int)
  · rw [if_pos c3] at H
    have c3b0 : ((l0.length : Int) == (l1.length : Int)) = true := beq_iff_eq.mpr c3
    have c3b1 : ((l0.length : Int) != (l1.length : Int)) = false := bne_eq_false_iff_eq.mpr c3
    have c3b2 : (l0.length == l1.length) = true := by first | simpa using c3 | (simp at c3 ⊢; omega)
    clear c3
    have H' := Aside0.mk H
    clear H
    go_enter Try.func15, Try.ntmps15
    go_wp2
    repeat (go_quiet (fail); try go_wp2)
    go_loopg [5] k (fun kq v5 w' => ∃ (x5_1 : Int), v5 = .int .i64 x5_1 ∧ Aside0 (epactref12_Same.l0 kq l0 l1 x5_1 = some r) ∧ Aside0 (kq ≤ k) ∧ Drawn0 w w')
    case atStart => exact ⟨(0), (by first | rfl | (simp; done) | (simp [*]; done)), H', ⟨Nat.le_refl _⟩, by repeat (first | exact Drawn0.refl _ | apply Drawn0.step)⟩
    case round =>
      clear H'
      try clear c1
      try clear p2
      try clear c3
      try clear c3b0
      try clear c3b1
      try clear c3b2
      obtain ⟨x5_1, rfl, HA, HK1, ⟨m1, rfl⟩⟩ := hrel
      cases gk with
      | zero => exact absurd HA.out (by simp [epactref12_Same.l0])
      | succ k1 =>
        have H := HA.out
        clear HA
        simp only [epactref12_Same.l0] at H
        by_cases c4 : x5_1 < (l0.length : Int)
        · rw [if_pos c4] at H
          have c4b0 : decide (x5_1 < (l0.length : Int)) = true := decide_eq_true c4
          clear c4
          by_cases c5 : 0 ≤ x5_1
          · rw [if_pos c5] at H
            have c5b0 : decide (0 ≤ x5_1) = true := decide_eq_true c5
            clear c5
            by_cases c6 : x5_1 < (l1.length : Int)
            · rw [if_pos c6] at H
              have c6b0 : decide (x5_1 < (l1.length : Int)) = true := decide_eq_true c6
              clear c6
              by_cases c7 : (!(((rd_T44 l0 x5_1).f0) == ((rd_T44 l1 x5_1).f0)) || (!(((rd_T44 l0 x5_1).f1) == ((rd_T44 l1 x5_1).f1)))) = true
              · rw [if_pos c7] at H
                have c7b0 : (!(((rd_T44 l0 x5_1).f0) == ((rd_T44 l1 x5_1).f0)) || (!(((rd_T44 l0 x5_1).f1) == ((rd_T44 l1 x5_1).f1)))) = true := c7
                clear c7
                obtain rfl := Option.some.inj H
                have p293 : 0 ≤ (x5_1 : Int) := of_decide_eq_true (by first | (with_reducible assumption) | assumption)
                have q293 : x5_1 < (l0.length : Int) := of_decide_eq_true (by first | (with_reducible assumption) | assumption)
                obtain ⟨ad293, e293, hx293_0, hx293_1⟩ := at_T44 HR0.out x5_1 p293 q293
                cases e293
                replace p293 := eq_true p293
                replace q293 := eq_true q293
                have p294 : 0 ≤ (x5_1 : Int) := of_decide_eq_true (by first | (with_reducible assumption) | assumption)
                have q294 : x5_1 < (l1.length : Int) := of_decide_eq_true (by first | (with_reducible assumption) | assumption)
                obtain ⟨ad294, e294, hx294_0, hx294_1⟩ := at_T44 HR1.out x5_1 p294 q294
                cases e294
                replace p294 := eq_true p294
                replace q294 := eq_true q294
                go_wp2
                repeat (go_quiet (fail); try go_wp2)
                go_ret
                exact ⟨by first | rfl | (simp; done) | (simp [*]; done), by repeat (first | exact Drawn0.refl _ | apply Drawn0.step)⟩
              · rw [if_neg c7] at H
                have c7b0 : (!(((rd_T44 l0 x5_1).f0) == ((rd_T44 l1 x5_1).f0)) || (!(((rd_T44 l0 x5_1).f1) == ((rd_T44 l1 x5_1).f1)))) = false := by first | (simp; done) | (simp at c7; done) | simpa using c7
                clear c7
                have H' := Aside0.mk H
                clear H
                have p293 : 0 ≤ (x5_1 : Int) := of_decide_eq_true (by first | (with_reducible assumption) | assumption)
                have q293 : x5_1 < (l0.length : Int) := of_decide_eq_true (by first | (with_reducible assumption) | assumption)
                obtain ⟨ad293, e293, hx293_0, hx293_1⟩ := at_T44 HR0.out x5_1 p293 q293
                cases e293
                replace p293 := eq_true p293
                replace q293 := eq_true q293
                have p294 : 0 ≤ (x5_1 : Int) := of_decide_eq_true (by first | (with_reducible assumption) | assumption)
                have q294 : x5_1 < (l1.length : Int) := of_decide_eq_true (by first | (with_reducible assumption) | assumption)
                obtain ⟨ad294, e294, hx294_0, hx294_1⟩ := at_T44 HR1.out x5_1 p294 q294
                cases e294
                replace p294 := eq_true p294
                replace q294 := eq_true q294
                go_wp2
                repeat (go_quiet (fail); try go_wp2)
                go_roundg k1
                case measure => have := HK1.out; omega
                case rel => exact ⟨(wrap64 (x5_1 + 1)), (by first | rfl | (simp; done) | (simp [*]; done)), H', ⟨by have := HK1.out; omega⟩, by repeat (first | exact Drawn0.refl _ | apply Drawn0.step)⟩
            · rw [if_neg c6] at H
              exact absurd H (by simp)
          · rw [if_neg c5] at H
            exact absurd H (by simp)
        · rw [if_neg c4] at H
          have c4b0 : decide (x5_1 < (l0.length : Int)) = false := decide_eq_false c4
          clear c4
          obtain rfl := Option.some.inj H
          go_wp2
          repeat (go_quiet (fail); try go_wp2)
          go_ret
          exact ⟨by first | rfl | (simp; done) | (simp [*]; done), by repeat (first | exact Drawn0.refl _ | apply Drawn0.step)⟩
  · rw [if_neg c3] at H
    have c3b0 : ((l0.length : Int) == (l1.length : Int)) = false := beq_eq_false_iff_ne.mpr c3
    have c3b1 : ((l0.length : Int) != (l1.length : Int)) = true := bne_iff_ne.mpr c3
    have c3b2 : (l0.length == l1.length) = false := by first | simpa using c3 | (simp at c3 ⊢; omega)
    obtain rfl := Option.some.inj H
    go_enter Try.func15, Try.ntmps15
    go_wp2
    repeat (go_quiet (fail); try go_wp2)
    go_ret
    exact ⟨by first | rfl | (simp; done) | (simp [*]; done), by repeat (first | exact Drawn0.refl _ | apply Drawn0.step)⟩

/-! ### epactref12_Right: function 17 -/
def epactref12_Right.f (k : Nat) (l0 : List (S44)) : Option (Bool) := (epactref12_Check.f k l0).bind fun bt295 => (some (bt295.2 == 0))
theorem epactref12_Right.mono : ∀ a0 k, LeO (epactref12_Right.f k a0) (epactref12_Right.f (k + 1) a0) := by
  intro a0 k
  unfold epactref12_Right.f
  repeat' first
      | (with_reducible exact epactref12_Check.mono _ _)
      | (with_reducible exact LeO.refl _)
      | (with_reducible exact LeO.none _)
      | (with_reducible refine LeO.ite ?_ ?_)
      | (with_reducible refine LeO.bind ?_ (fun _ => ?_))
      | exact epactref12_Check.mono _ _
      | exact LeO.none _
      | refine LeO.ite ?_ ?_
      | refine LeO.bind ?_ (fun _ => ?_)
set_option maxHeartbeats 8000000 in
set_option maxRecDepth 100000 in
theorem epactref12_Right.calls (k : Nat) (A0 : Option Addr) (c0 : Nat) (l0 : List (S44)) (r : Bool) (w : World) (hr0 : Kd.C k44 w A0 l0.length l0) (hc0 : l0.length ≤ c0) (h : epactref12_Right.f k l0 = some r) :
    Calls Try.prog 17 #[.slice A0 l0.length c0] w fun e w' => e = .returned (.bool r) ∧ Drawn0 w w' := by
  have HR0 := Aside0.mk hr0
  have HC0 := Aside0.mk hc0
  clear hr0 hc0
  have H : ((epactref12_Check.f k l0).bind fun bt295 => (some (bt295.2 == 0))) = some r := h
  clear h
  replace H := Option.bind_eq_some_iff.mp H
  obtain ⟨⟨t295, t296⟩, A20, H⟩ := H
  replace H : (some (t296 == 0)) = some r := H
  have A2 := Aside0.mk A20
  clear A20
  obtain rfl := Option.some.inj H
  go_enter Try.func17, Try.ntmps17
  go_wp2_with (first | ((with_reducible refine gate_callee (f := 14) rfl ?_); refine goesL_ (some 7) rfl rfl Try.func14 (by kernel_rfl) rfl #[.slice A0 l0.length c0] rfl (by (try simp only [List.map_toArray, List.map_cons, List.map_nil]); first | done | rfl | (simp only [List.length_drop, List.length_take]; rfl)) ?_; (with_reducible refine (epactref12_Check.calls k _ _ l0 t295 t296 _ ?side1 ?side2 A2.out).mono ?_); (case side1 => repeat (first | exact HR0.out | (with_reducible refine Kd.C_alloc ?_ _) | (with_reducible refine Kd.C_drewN ?_ _) | (with_reducible refine Kd.C_drew ?_))); (case side2 => exact HC0.out); rintro e w' ⟨rfl, ⟨nd, rfl⟩⟩; refine ⟨_, rfl, ?_⟩))
  go_ret
  exact ⟨by first | rfl | (simp; done) | (simp [*]; done), by repeat (first | exact Drawn0.refl _ | apply Drawn0.step)⟩

/-! ### epactref12_leaps: function 39 -/
def epactref12_leaps.f (l0 : List (S44)) : Option (Int) := if (l0.length : Int) > 0 then (if 0 ≤ (wrap64 ((l0.length : Int) - 1)) then (if (wrap64 ((l0.length : Int) - 1)) < (l0.length : Int) then ((epactref12_ahead.f l0 (wrap64 ((l0.length : Int) - 1))).bind fun t298 => (if ((rd_T44 l0 (wrap64 ((l0.length : Int) - 1))).f1) = t298 then (some (wrap64 ((l0.length : Int) - 1))) else (some (l0.length : Int)))) else (none)) else (none)) else (some (l0.length : Int))
set_option maxHeartbeats 8000000 in
set_option maxRecDepth 100000 in
theorem epactref12_leaps.calls (A0 : Option Addr) (c0 : Nat) (l0 : List (S44)) (r : Int) (w : World) (hr0 : Kd.C k44 w A0 l0.length l0) (hc0 : l0.length ≤ c0) (h : epactref12_leaps.f l0 = some r) :
    Calls Try.prog 39 #[.slice A0 l0.length c0] w fun e w' => e = .returned (.int .i64 r) ∧ Drawn0 w w' := by
  have HR0 := Aside0.mk hr0
  have HC0 := Aside0.mk hc0
  clear hr0 hc0
  have H : (if (l0.length : Int) > 0 then (if 0 ≤ (wrap64 ((l0.length : Int) - 1)) then (if (wrap64 ((l0.length : Int) - 1)) < (l0.length : Int) then ((epactref12_ahead.f l0 (wrap64 ((l0.length : Int) - 1))).bind fun t298 => (if ((rd_T44 l0 (wrap64 ((l0.length : Int) - 1))).f1) = t298 then (some (wrap64 ((l0.length : Int) - 1))) else (some (l0.length : Int)))) else (none)) else (none)) else (some (l0.length : Int))) = some r := h
  clear h
  by_cases c2 : (l0.length : Int) > 0
  · rw [if_pos c2] at H
    have c2b0 : decide (0 < (l0.length : Int)) = true := decide_eq_true c2
    have c2b1 : decide (0 < l0.length) = true := decide_eq_true (by omega)
    clear c2
    obtain ⟨ji3, hji3⟩ : ∃ j_ : Int, (wrap64 ((l0.length : Int) - 1)) = j_ := ⟨_, rfl⟩
    replace H : (if 0 ≤ (ji3) then (if (ji3) < (l0.length : Int) then ((epactref12_ahead.f l0 (ji3)).bind fun t298 => (if ((rd_T44 l0 (ji3)).f1) = t298 then (some ji3) else (some (l0.length : Int)))) else (none)) else (none)) = some r := by first | (rw [hji3] at H; exact H) | (simp only [hji3] at H ⊢; exact H)
    have hji3w : (IntKind.i64.wrap ((l0.length : Int) - 1)) = ji3 := (i64_w _).trans hji3
    by_cases c4 : 0 ≤ (ji3)
    · rw [if_pos c4] at H
      have c4b0 : decide (0 ≤ (ji3)) = true := decide_eq_true c4
      clear c4
      by_cases c5 : (ji3) < (l0.length : Int)
      · rw [if_pos c5] at H
        have c5b0 : decide ((ji3) < (l0.length : Int)) = true := decide_eq_true c5
        clear c5
        replace H := Option.bind_eq_some_iff.mp H
        obtain ⟨t298, A60, H⟩ := H
        replace H : (if ((rd_T44 l0 (ji3)).f1) = t298 then (some ji3) else (some (l0.length : Int))) = some r := H
        have A6 := Aside0.mk A60
        clear A60
        by_cases c7 : ((rd_T44 l0 (ji3)).f1) = t298
        · rw [if_pos c7] at H
          have c7b0 : (((rd_T44 l0 (ji3)).f1) == t298) = true := beq_iff_eq.mpr c7
          have c7b1 : (((rd_T44 l0 (ji3)).f1) != t298) = false := bne_eq_false_iff_eq.mpr c7
          clear c7
          obtain rfl := Option.some.inj H
          have p297 : 0 ≤ ((ji3) : Int) := of_decide_eq_true (by first | (with_reducible assumption) | assumption)
          have q297 : (ji3) < (l0.length : Int) := of_decide_eq_true (by first | (with_reducible assumption) | assumption)
          obtain ⟨ad297, e297, hx297_0, hx297_1⟩ := at_T44 HR0.out (ji3) p297 q297
          cases e297
          replace p297 := eq_true p297
          replace q297 := eq_true q297
          go_enter Try.func39, Try.ntmps39
          go_wp2_with (first | (go_at_call 35; (with_reducible refine (epactref12_ahead.calls _ _ l0 ji3 t298 _ ?side1 ?side2 A6.out).mono ?_); (case side1 => repeat (first | exact HR0.out | (with_reducible refine Kd.C_alloc ?_ _) | (with_reducible refine Kd.C_drewN ?_ _) | (with_reducible refine Kd.C_drew ?_))); (case side2 => exact HC0.out); rintro e w' ⟨rfl, ⟨nd, rfl⟩⟩; (try first | exact ⟨rfl, _, World.drewN_drewN _ _ _⟩ | exact ⟨rfl, _, Eq.trans (World.drewN_drewN _ _ _) (congrArg (World.drewN _) (Nat.add_assoc _ _ _))⟩)))
          repeat (go_quiet (first | (go_at_call 35; (with_reducible refine (epactref12_ahead.calls _ _ l0 ji3 t298 _ ?side1 ?side2 A6.out).mono ?_); (case side1 => repeat (first | exact HR0.out | (with_reducible refine Kd.C_alloc ?_ _) | (with_reducible refine Kd.C_drewN ?_ _) | (with_reducible refine Kd.C_drew ?_))); (case side2 => exact HC0.out); rintro e w' ⟨rfl, ⟨nd, rfl⟩⟩; (try first | exact ⟨rfl, _, World.drewN_drewN _ _ _⟩ | exact ⟨rfl, _, Eq.trans (World.drewN_drewN _ _ _) (congrArg (World.drewN _) (Nat.add_assoc _ _ _))⟩))); try go_wp2_with (first | (go_at_call 35; (with_reducible refine (epactref12_ahead.calls _ _ l0 ji3 t298 _ ?side1 ?side2 A6.out).mono ?_); (case side1 => repeat (first | exact HR0.out | (with_reducible refine Kd.C_alloc ?_ _) | (with_reducible refine Kd.C_drewN ?_ _) | (with_reducible refine Kd.C_drew ?_))); (case side2 => exact HC0.out); rintro e w' ⟨rfl, ⟨nd, rfl⟩⟩; (try first | exact ⟨rfl, _, World.drewN_drewN _ _ _⟩ | exact ⟨rfl, _, Eq.trans (World.drewN_drewN _ _ _) (congrArg (World.drewN _) (Nat.add_assoc _ _ _))⟩))))
          go_ret
          exact ⟨by first | rfl | (simp; done) | (simp only [← hji3] <;> (first | rfl | simp)) | (simp [*]; done), by repeat (first | exact Drawn0.refl _ | apply Drawn0.step)⟩
        · rw [if_neg c7] at H
          have c7b0 : (((rd_T44 l0 (ji3)).f1) == t298) = false := beq_eq_false_iff_ne.mpr c7
          have c7b1 : (((rd_T44 l0 (ji3)).f1) != t298) = true := bne_iff_ne.mpr c7
          obtain rfl := Option.some.inj H
          have p297 : 0 ≤ ((ji3) : Int) := of_decide_eq_true (by first | (with_reducible assumption) | assumption)
          have q297 : (ji3) < (l0.length : Int) := of_decide_eq_true (by first | (with_reducible assumption) | assumption)
          obtain ⟨ad297, e297, hx297_0, hx297_1⟩ := at_T44 HR0.out (ji3) p297 q297
          cases e297
          replace p297 := eq_true p297
          replace q297 := eq_true q297
          go_enter Try.func39, Try.ntmps39
          go_wp2_with (first | (go_at_call 35; (with_reducible refine (epactref12_ahead.calls _ _ l0 ji3 t298 _ ?side1 ?side2 A6.out).mono ?_); (case side1 => repeat (first | exact HR0.out | (with_reducible refine Kd.C_alloc ?_ _) | (with_reducible refine Kd.C_drewN ?_ _) | (with_reducible refine Kd.C_drew ?_))); (case side2 => exact HC0.out); rintro e w' ⟨rfl, ⟨nd, rfl⟩⟩; (try first | exact ⟨rfl, _, World.drewN_drewN _ _ _⟩ | exact ⟨rfl, _, Eq.trans (World.drewN_drewN _ _ _) (congrArg (World.drewN _) (Nat.add_assoc _ _ _))⟩)))
          repeat (go_quiet (first | (go_at_call 35; (with_reducible refine (epactref12_ahead.calls _ _ l0 ji3 t298 _ ?side1 ?side2 A6.out).mono ?_); (case side1 => repeat (first | exact HR0.out | (with_reducible refine Kd.C_alloc ?_ _) | (with_reducible refine Kd.C_drewN ?_ _) | (with_reducible refine Kd.C_drew ?_))); (case side2 => exact HC0.out); rintro e w' ⟨rfl, ⟨nd, rfl⟩⟩; (try first | exact ⟨rfl, _, World.drewN_drewN _ _ _⟩ | exact ⟨rfl, _, Eq.trans (World.drewN_drewN _ _ _) (congrArg (World.drewN _) (Nat.add_assoc _ _ _))⟩))); try go_wp2_with (first | (go_at_call 35; (with_reducible refine (epactref12_ahead.calls _ _ l0 ji3 t298 _ ?side1 ?side2 A6.out).mono ?_); (case side1 => repeat (first | exact HR0.out | (with_reducible refine Kd.C_alloc ?_ _) | (with_reducible refine Kd.C_drewN ?_ _) | (with_reducible refine Kd.C_drew ?_))); (case side2 => exact HC0.out); rintro e w' ⟨rfl, ⟨nd, rfl⟩⟩; (try first | exact ⟨rfl, _, World.drewN_drewN _ _ _⟩ | exact ⟨rfl, _, Eq.trans (World.drewN_drewN _ _ _) (congrArg (World.drewN _) (Nat.add_assoc _ _ _))⟩))))
          go_ret
          exact ⟨by first | rfl | (simp; done) | (simp only [← hji3] <;> (first | rfl | simp)) | (simp [*]; done), by repeat (first | exact Drawn0.refl _ | apply Drawn0.step)⟩
      · rw [if_neg c5] at H
        exact absurd H (by simp)
    · rw [if_neg c4] at H
      exact absurd H (by simp)
  · rw [if_neg c2] at H
    have c2b0 : decide (0 < (l0.length : Int)) = false := decide_eq_false c2
    have c2b1 : decide (0 < l0.length) = false := decide_eq_false (by omega)
    clear c2
    obtain rfl := Option.some.inj H
    go_enter Try.func39, Try.ntmps39
    go_wp2
    repeat (go_quiet (fail); try go_wp2)
    go_ret
    exact ⟨by first | rfl | (simp; done) | (simp [*]; done), by repeat (first | exact Drawn0.refl _ | apply Drawn0.step)⟩

end Go.Proofs.Ytmnkfafnfjpliaa.PAll
