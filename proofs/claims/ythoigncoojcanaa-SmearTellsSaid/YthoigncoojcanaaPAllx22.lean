-- Written for this claim by wip/tools of this repo (after the kit's print; own contracts laid in).
import Derived.Test.YthoigncoojcanaaPAllx0
import Derived.Test.YthoigncoojcanaaShort
import Derived.Test.YthoigncoojcanaaPAllx19
import Derived.Test.YthoigncoojcanaaPAllx21
namespace Go.Proofs.Ythoigncoojcanaa.PAll
open Go.RowKit Go.Proofs.YthoigncoojcanaaW.PrintWords Go.Proofs.YthoigncoojcanaaW.PrintLast Go.Proofs.YthoigncoojcanaaW.PrintMore
attribute [local go_sem] max2_int min2_int max_two min_two max_three min_three max_four min_four   -- for this text's walks alone
set_option linter.unusedVariables false
set_option linter.unusedSimpArgs false

/-! ### epactref12_Check: function 103 -/
mutual
def epactref12_Check.l0 : Nat → List (S53) → Int → Option (Int × Int)
 | 0, _, _ => none
 | k + 1, x0, x4 => if x4 < (x0.length : Int) then (if 0 ≤ x4 then ((epactref12_ahead.f x0 x4).bind fun t502 => ((epactref12_ahead.f x0 x4).bind fun t504 => ((epactref01_Sub.f ((rd_T53 x0 x4).f1) t504).bind fun bt505 => (if bt505.2 = true then (if bt505.1 = 1 then (epactref12_Check.j1 k x0 x4 (x4 == (wrap64 ((x0.length : Int) - 1))) (((rd_T53 x0 x4).f1) == t502) true) else (epactref12_Check.j1 k x0 x4 (x4 == (wrap64 ((x0.length : Int) - 1))) (((rd_T53 x0 x4).f1) == t502) (bt505.1 == (-1)))) else (epactref12_Check.j1 k x0 x4 (x4 == (wrap64 ((x0.length : Int) - 1))) (((rd_T53 x0 x4).f1) == t502) false))))) else (none)) else (some ((x0.length : Int), 0))
def epactref12_Check.j1 : Nat → List (S53) → Int → Bool → Bool → Bool → Option (Int × Int)
 | 0, _, _, _, _, _ => none
 | k + 1, x0, x4, x5, x6, x9 => if x4 > 200 then (some (x4, 8)) else (if 0 ≤ x4 then (if x4 < (x0.length : Int) then (if ((rd_T53 x0 x4).f0) < 0 then (some (x4, 9)) else (if x9 = true then (epactref12_Check.j2 k x0 x4 x6 false) else (if x5 = true then (epactref12_Check.j2 k x0 x4 x6 (!x6)) else (epactref12_Check.j2 k x0 x4 x6 (!false))))) else (none)) else (none))
def epactref12_Check.j2 : Nat → List (S53) → Int → Bool → Bool → Option (Int × Int)
 | 0, _, _, _, _ => none
 | k + 1, x0, x4, x6, x69 => if x69 = true then (some (x4, 6)) else (if x4 > 0 then (if x6 = true then (if 0 ≤ x4 then (if x4 < (x0.length : Int) then (if 0 ≤ (wrap64 (x4 - 1)) then (if (wrap64 (x4 - 1)) < (x0.length : Int) then (if ((rd_T53 x0 x4).f0) < ((rd_T53 x0 (wrap64 (x4 - 1))).f0) then (some (x4, 7)) else (epactref12_Check.l0 k x0 (wrap64 (x4 + 1)))) else (none)) else (none)) else (none)) else (none)) else (if 0 ≤ x4 then (if x4 < (x0.length : Int) then (if 0 ≤ (wrap64 (x4 - 1)) then (if (wrap64 (x4 - 1)) < (x0.length : Int) then (if (wrap64 (((rd_T53 x0 x4).f0) - ((rd_T53 x0 (wrap64 (x4 - 1))).f0))) < 2419199 then (some (x4, 7)) else (if ((rd_T53 x0 x4).f0) < ((rd_T53 x0 (wrap64 (x4 - 1))).f0) then (some (x4, 7)) else (epactref12_Check.l0 k x0 (wrap64 (x4 + 1))))) else (none)) else (none)) else (none)) else (none))) else (epactref12_Check.l0 k x0 (wrap64 (x4 + 1))))
end
def epactref12_Check.f (k : Nat) (l0 : List (S53)) : Option (Int × Int) := epactref12_Check.l0 k l0 0
theorem epactref12_Check.mono_l : ∀ k, (∀ y0 y1, LeO (epactref12_Check.l0 k y0 y1) (epactref12_Check.l0 (k + 1) y0 y1)) ∧ (∀ y0 y1 y2 y3 y4, LeO (epactref12_Check.j1 k y0 y1 y2 y3 y4) (epactref12_Check.j1 (k + 1) y0 y1 y2 y3 y4)) ∧ (∀ y0 y1 y2 y3, LeO (epactref12_Check.j2 k y0 y1 y2 y3) (epactref12_Check.j2 (k + 1) y0 y1 y2 y3))
 | 0 => ⟨fun _ _ r h => by simp [epactref12_Check.l0] at h, fun _ _ _ _ _ r h => by simp [epactref12_Check.j1] at h, fun _ _ _ _ r h => by simp [epactref12_Check.j2] at h⟩
 | k + 1 => by
  obtain ⟨ih0, ih1, ih2⟩ := epactref12_Check.mono_l k
  refine ⟨?_, ?_, ?_⟩
  ·intro y0 y1
   unfold epactref12_Check.l0
   repeat' first
   | (with_reducible exact ih0 _ _)
   | (with_reducible exact ih1 _ _ _ _ _)
   | (with_reducible exact ih2 _ _ _ _)
   | (with_reducible exact LeO.refl _)
   | (with_reducible exact LeO.none _)
   | (with_reducible refine LeO.ite ?_ ?_)
   | (with_reducible refine LeO.bind ?_ (fun _ => ?_))
  ·intro y0 y1 y2 y3 y4
   unfold epactref12_Check.j1
   repeat' first
   | (with_reducible exact ih0 _ _)
   | (with_reducible exact ih1 _ _ _ _ _)
   | (with_reducible exact ih2 _ _ _ _)
   | (with_reducible exact LeO.refl _)
   | (with_reducible exact LeO.none _)
   | (with_reducible refine LeO.ite ?_ ?_)
   | (with_reducible refine LeO.bind ?_ (fun _ => ?_))
  ·intro y0 y1 y2 y3
   unfold epactref12_Check.j2
   repeat' first
   | (with_reducible exact ih0 _ _)
   | (with_reducible exact ih1 _ _ _ _ _)
   | (with_reducible exact ih2 _ _ _ _)
   | (with_reducible exact LeO.refl _)
   | (with_reducible exact LeO.none _)
   | (with_reducible refine LeO.ite ?_ ?_)
   | (with_reducible refine LeO.bind ?_ (fun _ => ?_))
theorem epactref12_Check.mono : ∀ a0 k, LeO (epactref12_Check.f k a0) (epactref12_Check.f (k + 1) a0) := by
 intro a0 k
 obtain ⟨ih0, ih1, ih2⟩ := epactref12_Check.mono_l k
 unfold epactref12_Check.f
 repeat' first
   | (with_reducible exact ih0 _ _)
   | (with_reducible exact ih1 _ _ _ _ _)
   | (with_reducible exact ih2 _ _ _ _)
   | (with_reducible exact LeO.refl _)
   | (with_reducible exact LeO.none _)
   | (with_reducible refine LeO.ite ?_ ?_)
   | (with_reducible refine LeO.bind ?_ (fun _ => ?_))
set_option maxHeartbeats 8000000 in
set_option maxRecDepth 100000 in
theorem epactref12_Check.calls (k : Nat) (A0 : Option Addr) (c0 : Nat) (l0 : List (S53)) (r1 : Int) (r2 : Int) (w : World) (hr0 : Kd.C k53 w A0 l0.length l0) (hc0 : l0.length ≤ c0) (h : epactref12_Check.f k l0 = some (r1, r2)) :
  Calls Try.prog 103 #[.slice A0 l0.length c0] w fun e w' => e = .returned (.tuple #[.int .i64 r1, .int .i64 r2]) ∧ Drawn0 w w' := by
 have HR0 := Aside0.mk hr0
 have HC0 := Aside0.mk hc0
 clear hr0 hc0
 have H : (epactref12_Check.l0 k l0 0) = some (r1, r2) := h
 clear h
 have H' := Aside0.mk H
 clear H
 go_enter Try.func103, Try.ntmps103
 go_wp2
 repeat (go_quiet (fail); try go_wp2)
 go_loopg [4] k (fun kq v4 w' => ∃ (x4_1 : Int), v4 = .int .i64 x4_1 ∧ Aside0 (epactref12_Check.l0 kq l0 x4_1 = some (r1, r2)) ∧ Aside0 (kq ≤ k) ∧ Drawn0 w w')
 case atStart => exact ⟨(0), pr, H', ⟨Nat.le_refl _⟩, by repeat (first | exact Drawn0.refl _ | apply Drawn0.step)⟩
 case round =>
  clear H'
  try clear c1
  obtain ⟨x4_1, rfl, HA, HK1, ⟨m1, rfl⟩⟩ := hrel
  cases gk with
  | zero => exact absurd HA.out (by simp [epactref12_Check.l0])
  | succ k1 =>
   have H := HA.out
   clear HA
   simp only [epactref12_Check.l0] at H
   by_cases c2 : x4_1 < (l0.length : Int)
   ·rw [if_pos c2] at H
    have c2b0 : decide (x4_1 < (l0.length : Int)) = true := decide_eq_true c2
    clear c2
    by_cases c3 : 0 ≤ x4_1
    ·rw [if_pos c3] at H
     have c3b0 : decide (0 ≤ x4_1) = true := decide_eq_true c3
     clear c3
     obtain ⟨t502, A4, H⟩ := bnd H
     try dsimp only at H
     obtain ⟨t504, A5, H⟩ := bnd H
     try dsimp only at H
     (try (obtain rfl : t504 = t502 := Option.some.inj (A5.out.symm.trans A4.out)))
     obtain ⟨⟨t505, t506⟩, A6, H⟩ := bnd H
     try dsimp only at H
     have HC7 := Aside0.mk H
     clear H
     have p501 : 0 ≤ (x4_1 : Int) := pa
     have q501 : x4_1 < (l0.length : Int) := pa
     obtain ⟨ad501, e501, hx501_0, hx501_1⟩ := at_T53 HR0.out x4_1 p501 q501
     cases e501
     replace p501 := eq_true p501
     replace q501 := eq_true q501
     go_upto_region 7 with (first | (go_at_call 107; (with_reducible refine (epactref12_ahead.calls _ _ l0 x4_1 t504 _ ?side1 ?side2 A4.out).mono ?_); (case side1 => exact ca HR0); (case side2 => exact HC0.out); rintro e w' ⟨rfl, ⟨nd, rfl⟩⟩; (try first | exact ⟨rfl, _, World.drewN_drewN _ _ _⟩ | exact ⟨rfl, _, Eq.trans (World.drewN_drewN _ _ _) (congrArg (World.drewN _) (Nat.add_assoc _ _ _))⟩); have p503 : 0 ≤ (x4_1 : Int) := pa; have q503 : x4_1 < (l0.length : Int) := pa; obtain ⟨ad503, e503, hx503_0, hx503_1⟩ := at_T53 HR0.out x4_1 p503 q503; obtain rfl : ad501 = ad503 := (by injection e503); replace p503 := eq_true p503; replace q503 := eq_true q503) | (go_at_call 107; (with_reducible refine (epactref12_ahead.calls _ _ l0 x4_1 t504 _ ?side1 ?side2 A5.out).mono ?_); (case side1 => exact ca HR0); (case side2 => exact HC0.out); rintro e w' ⟨rfl, ⟨nd, rfl⟩⟩; (try first | exact ⟨rfl, _, World.drewN_drewN _ _ _⟩ | exact ⟨rfl, _, Eq.trans (World.drewN_drewN _ _ _) (congrArg (World.drewN _) (Nat.add_assoc _ _ _))⟩)) | (go_at_call 110; (with_reducible refine (epactref01_Sub.calls ((rd_T53 l0 x4_1).f1) t504 t505 t506 _ A6.out).mono ?_); rintro e w' ⟨rfl, ⟨nd, rfl⟩⟩; (try first | exact ⟨rfl, _, World.drewN_drewN _ _ _⟩ | exact ⟨rfl, _, Eq.trans (World.drewN_drewN _ _ _) (congrArg (World.drewN _) (Nat.add_assoc _ _ _))⟩)))
     repeat (go_quiet (first | (go_at_call 107; (with_reducible refine (epactref12_ahead.calls _ _ l0 x4_1 t504 _ ?side1 ?side2 A4.out).mono ?_); (case side1 => exact ca HR0); (case side2 => exact HC0.out); rintro e w' ⟨rfl, ⟨nd, rfl⟩⟩; (try first | exact ⟨rfl, _, World.drewN_drewN _ _ _⟩ | exact ⟨rfl, _, Eq.trans (World.drewN_drewN _ _ _) (congrArg (World.drewN _) (Nat.add_assoc _ _ _))⟩); have p503 : 0 ≤ (x4_1 : Int) := pa; have q503 : x4_1 < (l0.length : Int) := pa; obtain ⟨ad503, e503, hx503_0, hx503_1⟩ := at_T53 HR0.out x4_1 p503 q503; obtain rfl : ad501 = ad503 := (by injection e503); replace p503 := eq_true p503; replace q503 := eq_true q503) | (go_at_call 107; (with_reducible refine (epactref12_ahead.calls _ _ l0 x4_1 t504 _ ?side1 ?side2 A5.out).mono ?_); (case side1 => exact ca HR0); (case side2 => exact HC0.out); rintro e w' ⟨rfl, ⟨nd, rfl⟩⟩; (try first | exact ⟨rfl, _, World.drewN_drewN _ _ _⟩ | exact ⟨rfl, _, Eq.trans (World.drewN_drewN _ _ _) (congrArg (World.drewN _) (Nat.add_assoc _ _ _))⟩)) | (go_at_call 110; (with_reducible refine (epactref01_Sub.calls ((rd_T53 l0 x4_1).f1) t504 t505 t506 _ A6.out).mono ?_); rintro e w' ⟨rfl, ⟨nd, rfl⟩⟩; (try first | exact ⟨rfl, _, World.drewN_drewN _ _ _⟩ | exact ⟨rfl, _, Eq.trans (World.drewN_drewN _ _ _) (congrArg (World.drewN _) (Nat.add_assoc _ _ _))⟩))); go_upto_region 7 with (first | (go_at_call 107; (with_reducible refine (epactref12_ahead.calls _ _ l0 x4_1 t504 _ ?side1 ?side2 A4.out).mono ?_); (case side1 => exact ca HR0); (case side2 => exact HC0.out); rintro e w' ⟨rfl, ⟨nd, rfl⟩⟩; (try first | exact ⟨rfl, _, World.drewN_drewN _ _ _⟩ | exact ⟨rfl, _, Eq.trans (World.drewN_drewN _ _ _) (congrArg (World.drewN _) (Nat.add_assoc _ _ _))⟩); have p503 : 0 ≤ (x4_1 : Int) := pa; have q503 : x4_1 < (l0.length : Int) := pa; obtain ⟨ad503, e503, hx503_0, hx503_1⟩ := at_T53 HR0.out x4_1 p503 q503; obtain rfl : ad501 = ad503 := (by injection e503); replace p503 := eq_true p503; replace q503 := eq_true q503) | (go_at_call 107; (with_reducible refine (epactref12_ahead.calls _ _ l0 x4_1 t504 _ ?side1 ?side2 A5.out).mono ?_); (case side1 => exact ca HR0); (case side2 => exact HC0.out); rintro e w' ⟨rfl, ⟨nd, rfl⟩⟩; (try first | exact ⟨rfl, _, World.drewN_drewN _ _ _⟩ | exact ⟨rfl, _, Eq.trans (World.drewN_drewN _ _ _) (congrArg (World.drewN _) (Nat.add_assoc _ _ _))⟩)) | (go_at_call 110; (with_reducible refine (epactref01_Sub.calls ((rd_T53 l0 x4_1).f1) t504 t505 t506 _ A6.out).mono ?_); rintro e w' ⟨rfl, ⟨nd, rfl⟩⟩; (try first | exact ⟨rfl, _, World.drewN_drewN _ _ _⟩ | exact ⟨rfl, _, Eq.trans (World.drewN_drewN _ _ _) (congrArg (World.drewN _) (Nat.add_assoc _ _ _))⟩))))
     (try simp only [Act.put, List.setIfInBounds_toArray, List.set_cons_zero, List.set_cons_succ])
     go_cut [9] (fun v9 wc => ∃ (kq : Nat) (x9_6 : Bool), v9 = .bool x9_6 ∧ Aside0 (epactref12_Check.j1 kq l0 x4_1 (x4_1 == (wrap64 ((l0.length : Int) - 1))) (((rd_T53 l0 x4_1).f1) == t504) x9_6 = some (r1, r2)) ∧ Aside0 (kq ≤ k1) ∧ Drawn0 w wc)
     case first =>
      have H := HC7.out
      clear HC7
      by_cases c8 : t506 = true
      ·subst c8
       rw [if_pos rfl] at H
       by_cases c9 : t505 = 1
       ·rw [if_pos c9] at H
        have c9b0 : (t505 == 1) = true := beq_iff_eq.mpr c9
        have c9b1 : (t505 != 1) = false := bne_eq_false_iff_eq.mpr c9
        clear c9
        (first | rw [c9b0] | (simp only [i64_w, i32_w]; rw [c9b0]) | skip)
        have H' := Aside0.mk H
        clear H
        go_wp2
        repeat (go_quiet (fail); try go_wp2)
        go_meet
        case rel => exact ⟨_, (true), pr, H', ⟨by have := HK1.out; first | omega | exact Nat.le_refl _⟩, by repeat (first | exact Drawn0.refl _ | apply Drawn0.step)⟩
       ·rw [if_neg c9] at H
        have c9b0 : (t505 == 1) = false := beq_eq_false_iff_ne.mpr c9
        have c9b1 : (t505 != 1) = true := bne_iff_ne.mpr c9
        (first | rw [c9b0] | (simp only [i64_w, i32_w]; rw [c9b0]) | skip)
        have H' := Aside0.mk H
        clear H
        go_wp2
        repeat (go_quiet (fail); try go_wp2)
        go_meet
        case rel => exact ⟨_, ((t505 == (-1))), pr, H', ⟨by have := HK1.out; first | omega | exact Nat.le_refl _⟩, by repeat (first | exact Drawn0.refl _ | apply Drawn0.step)⟩
      ·replace c8 := Bool.eq_false_iff.mpr c8
       subst c8
       rw [if_neg (show ¬ (false = true) by decide)] at H
       have H' := Aside0.mk H
       clear H
       go_wp2
       repeat (go_quiet (fail); try go_wp2)
       go_meet
       case rel => exact ⟨_, (false), pr, H', ⟨by have := HK1.out; first | omega | exact Nat.le_refl _⟩, by repeat (first | exact Drawn0.refl _ | apply Drawn0.step)⟩
     case rest =>
      clear HC7
      try clear c1
      try clear c2
      try clear c2b0
      try clear p2
      try clear c3
      try clear c3b0
      try clear p5
      try clear q5
      try clear hx5
      try clear p6
      try clear c8
      try clear c9
      try clear c9b0
      try clear c9b1
      try clear hx501_0
      try clear hx501_1
      try clear hx503_0
      try clear hx503_1
      try clear p501
      try clear p503
      try clear q501
      try clear q503
      obtain ⟨kq, x9_6, rfl, HA, HJ6, ⟨mc6, rfl⟩⟩ := hcut
      cases kq with
      | zero => exact absurd HA.out (by simp [epactref12_Check.j1])
      | succ kj6 =>
       have H := HA.out
       clear HA
       simp only [epactref12_Check.j1] at H
       by_cases c10 : x4_1 > 200
       ·rw [if_pos c10] at H
        have c10b0 : decide (200 < x4_1) = true := decide_eq_true c10
        clear c10
        simp only [Option.some.injEq, Prod.mk.injEq] at H
        obtain ⟨rfl, rfl⟩ := H
        go_wp2
        repeat (go_quiet (fail); try go_wp2)
        go_ret2
        exact fd
       ·rw [if_neg c10] at H
        have c10b0 : decide (200 < x4_1) = false := decide_eq_false c10
        clear c10
        by_cases c11 : 0 ≤ x4_1
        ·rw [if_pos c11] at H
         have c11b0 : decide (0 ≤ x4_1) = true := decide_eq_true c11
         clear c11
         by_cases c12 : x4_1 < (l0.length : Int)
         ·rw [if_pos c12] at H
          have c12b0 : decide (x4_1 < (l0.length : Int)) = true := decide_eq_true c12
          clear c12
          by_cases c13 : ((rd_T53 l0 x4_1).f0) < 0
          ·rw [if_pos c13] at H
           have c13b0 : decide (((rd_T53 l0 x4_1).f0) < 0) = true := decide_eq_true c13
           clear c13
           simp only [Option.some.injEq, Prod.mk.injEq] at H
           obtain ⟨rfl, rfl⟩ := H
           have p507 : 0 ≤ (x4_1 : Int) := pa
           have q507 : x4_1 < (l0.length : Int) := pa
           obtain ⟨ad507, e507, hx507_0, hx507_1⟩ := at_T53 HR0.out x4_1 p507 q507
           obtain rfl : ad501 = ad507 := (by injection e507)
           replace p507 := eq_true p507
           replace q507 := eq_true q507
           go_wp2
           repeat (go_quiet (fail); try go_wp2)
           go_ret2
           exact fd
          ·rw [if_neg c13] at H
           have c13b0 : decide (((rd_T53 l0 x4_1).f0) < 0) = false := decide_eq_false c13
           clear c13
           have HC14 := Aside0.mk H
           clear H
           have p507 : 0 ≤ (x4_1 : Int) := pa
           have q507 : x4_1 < (l0.length : Int) := pa
           obtain ⟨ad507, e507, hx507_0, hx507_1⟩ := at_T53 HR0.out x4_1 p507 q507
           obtain rfl : ad501 = ad507 := (by injection e507)
           replace p507 := eq_true p507
           replace q507 := eq_true q507
           go_upto_region 12 with (fail)
           repeat (go_quiet (fail); go_upto_region 12 with (fail))
           go_cut [69] (fun v69 wc => ∃ (kq : Nat) (x69_13 : Bool), v69 = .bool x69_13 ∧ Aside0 (epactref12_Check.j2 kq l0 x4_1 (((rd_T53 l0 x4_1).f1) == t504) x69_13 = some (r1, r2)) ∧ Aside0 (kq ≤ kj6) ∧ Drawn0 w wc)
           case first =>
            have H := HC14.out
            clear HC14
            by_cases c15 : x9_6 = true
            ·subst c15
             rw [if_pos rfl] at H
             have H' := Aside0.mk H
             clear H
             go_wp2
             repeat (go_quiet (fail); try go_wp2)
             go_meet
             case rel => exact ⟨_, (false), pr, H', ⟨by have := HK1.out; have := HJ6.out; first | omega | exact Nat.le_refl _⟩, by repeat (first | exact Drawn0.refl _ | apply Drawn0.step)⟩
            ·replace c15 := Bool.eq_false_iff.mpr c15
             subst c15
             rw [if_neg (show ¬ (false = true) by decide)] at H
             by_cases c16 : (x4_1 == (wrap64 ((l0.length : Int) - 1))) = true
             ·rw [if_pos c16] at H
              have c16b0 : (x4_1 == (wrap64 ((l0.length : Int) - 1))) = true := c16
              (try (have c16b1 : decide (x4_1 = (wrap64 ((l0.length : Int) - 1))) = true := by first | (simp; done) | (simp at c16; done) | simpa using c16))
              (try (have c16b2 : (x4_1 == (wrap64 ((l0.length : Int) - 1))) = true := by first | (simp; done) | (simp at c16; done) | simpa using c16))
              clear c16
              (first | rw [c16b0] | (simp only [i64_w, i32_w]; rw [c16b0]) | skip)
              have H' := Aside0.mk H
              clear H
              go_wp2
              repeat (go_quiet (fail); try go_wp2)
              (first | go_meet | (simp only [c16b0] at *; go_meet))
              case rel => first | exact ⟨_, (!(((rd_T53 l0 x4_1).f1) == t504)), pr, H', ⟨by have := HK1.out; have := HJ6.out; first | omega | exact Nat.le_refl _⟩, by repeat (first | exact Drawn0.refl _ | apply Drawn0.step)⟩ | (simp only [c16b0]; exact ⟨_, (!(((rd_T53 l0 x4_1).f1) == t504)), pr, H', ⟨by have := HK1.out; have := HJ6.out; first | omega | exact Nat.le_refl _⟩, by repeat (first | exact Drawn0.refl _ | apply Drawn0.step)⟩)
             ·rw [if_neg c16] at H
              have c16b0 : (x4_1 == (wrap64 ((l0.length : Int) - 1))) = false := by first | (simp; done) | (simp at c16; done) | simpa using c16
              (try (have c16b1 : decide (x4_1 = (wrap64 ((l0.length : Int) - 1))) = false := by first | (simp; done) | (simp at c16; done) | simpa using c16))
              (try (have c16b2 : (x4_1 == (wrap64 ((l0.length : Int) - 1))) = false := by first | (simp; done) | (simp at c16; done) | simpa using c16))
              (try (have c16b3 : ¬ (x4_1 = (wrap64 ((l0.length : Int) - 1))) := by first | (simp; done) | (simp at c16; done) | simpa using c16))
              clear c16
              (first | rw [c16b0] | (simp only [i64_w, i32_w]; rw [c16b0]) | skip)
              have H' := Aside0.mk H
              clear H
              go_wp2
              repeat (go_quiet (fail); try go_wp2)
              (first | go_meet | (simp only [c16b0] at *; go_meet))
              case rel => first | exact ⟨_, (!false), pr, H', ⟨by have := HK1.out; have := HJ6.out; first | omega | exact Nat.le_refl _⟩, by repeat (first | exact Drawn0.refl _ | apply Drawn0.step)⟩ | (simp only [c16b0]; exact ⟨_, (!false), pr, H', ⟨by have := HK1.out; have := HJ6.out; first | omega | exact Nat.le_refl _⟩, by repeat (first | exact Drawn0.refl _ | apply Drawn0.step)⟩)
           case rest =>
            clear HC14
            try clear c1
            try clear c2
            try clear c2b0
            try clear p2
            try clear c3
            try clear c3b0
            try clear p5
            try clear q5
            try clear hx5
            try clear c6
            try clear p6
            try clear c8
            try clear c9
            try clear c9b0
            try clear c9b1
            try clear c10
            try clear c10b0
            try clear c11
            try clear c11b0
            try clear c12
            try clear c12b0
            try clear c13
            try clear c13b0
            try clear c15
            try clear c16
            try clear c16b0
            try clear c16b1
            try clear c16b2
            try clear hx501_0
            try clear hx501_1
            try clear hx503_0
            try clear hx503_1
            try clear hx507_0
            try clear hx507_1
            try clear p2
            try clear p5
            try clear p501
            try clear p503
            try clear p507
            try clear p6
            try clear q5
            try clear q501
            try clear q503
            try clear q507
            obtain ⟨kq, x69_13, rfl, HA, HJ13, ⟨mc13, rfl⟩⟩ := hcut
            cases kq with
            | zero => exact absurd HA.out (by simp [epactref12_Check.j2])
            | succ kj13 =>
             have H := HA.out
             clear HA
             simp only [epactref12_Check.j2] at H
             by_cases c17 : x69_13 = true
             ·subst c17
              rw [if_pos rfl] at H
              simp only [Option.some.injEq, Prod.mk.injEq] at H
              obtain ⟨rfl, rfl⟩ := H
              go_wp2
              repeat (go_quiet (fail); try go_wp2)
              go_ret2
              exact fd
             ·replace c17 := Bool.eq_false_iff.mpr c17
              subst c17
              rw [if_neg (show ¬ (false = true) by decide)] at H
              by_cases c18 : x4_1 > 0
              ·rw [if_pos c18] at H
               have c18b0 : decide (0 < x4_1) = true := decide_eq_true c18
               clear c18
               by_cases c19 : (((rd_T53 l0 x4_1).f1) == t504) = true
               ·rw [if_pos c19] at H
                have c19b0 : (((rd_T53 l0 x4_1).f1) == t504) = true := c19
                (try (have c19b1 : decide (((rd_T53 l0 x4_1).f1) = t504) = true := by first | (simp; done) | (simp at c19; done) | simpa using c19))
                (try (have c19b2 : (((rd_T53 l0 x4_1).f1) == t504) = true := by first | (simp; done) | (simp at c19; done) | simpa using c19))
                clear c19
                by_cases c20 : 0 ≤ x4_1
                ·rw [if_pos c20] at H
                 have c20b0 : decide (0 ≤ x4_1) = true := decide_eq_true c20
                 clear c20
                 by_cases c21 : x4_1 < (l0.length : Int)
                 ·rw [if_pos c21] at H
                  have c21b0 : decide (x4_1 < (l0.length : Int)) = true := decide_eq_true c21
                  clear c21
                  obtain ⟨ji22, hji22⟩ : ∃ j_ : Int, (wrap64 (x4_1 - 1)) = j_ := ⟨_, rfl⟩
                  replace H : (if 0 ≤ (ji22) then (if (ji22) < (l0.length : Int) then (if ((rd_T53 l0 x4_1).f0) < ((rd_T53 l0 (ji22)).f0) then (some (x4_1, 7)) else (epactref12_Check.l0 kj13 l0 (wrap64 (x4_1 + 1)))) else (none)) else (none)) = some (r1, r2) := by first | (rw [hji22] at H; exact H) | (simp only [hji22] at H ⊢; exact H)
                  have hji22w : (IntKind.i64.wrap (x4_1 - 1)) = ji22 := (i64_w _).trans hji22
                  by_cases c23 : 0 ≤ (ji22)
                  ·rw [if_pos c23] at H
                   have c23b0 : decide (0 ≤ (ji22)) = true := decide_eq_true c23
                   clear c23
                   by_cases c24 : (ji22) < (l0.length : Int)
                   ·rw [if_pos c24] at H
                    have c24b0 : decide ((ji22) < (l0.length : Int)) = true := decide_eq_true c24
                    clear c24
                    by_cases c25 : ((rd_T53 l0 x4_1).f0) < ((rd_T53 l0 (ji22)).f0)
                    ·rw [if_pos c25] at H
                     have c25b0 : decide (((rd_T53 l0 x4_1).f0) < ((rd_T53 l0 (ji22)).f0)) = true := decide_eq_true c25
                     clear c25
                     simp only [Option.some.injEq, Prod.mk.injEq] at H
                     obtain ⟨rfl, rfl⟩ := H
                     have p508 : 0 ≤ (x4_1 : Int) := pa
                     have q508 : x4_1 < (l0.length : Int) := pa
                     obtain ⟨ad508, e508, hx508_0, hx508_1⟩ := at_T53 HR0.out x4_1 p508 q508
                     obtain rfl : ad501 = ad508 := (by injection e508)
                     replace p508 := eq_true p508
                     replace q508 := eq_true q508
                     have p509 : 0 ≤ ((ji22) : Int) := pa
                     have q509 : (ji22) < (l0.length : Int) := pa
                     obtain ⟨ad509, e509, hx509_0, hx509_1⟩ := at_T53 HR0.out (ji22) p509 q509
                     obtain rfl : ad501 = ad509 := (by injection e509)
                     replace p509 := eq_true p509
                     replace q509 := eq_true q509
                     go_wp2
                     repeat (go_quiet (fail); try go_wp2)
                     go_ret2
                     exact ⟨by first | rfl | (simp; done) | (simp only [← hji22] <;> (first | rfl | simp)) | (simp [*]; done), by repeat (first | exact Drawn0.refl _ | apply Drawn0.step)⟩
                    ·rw [if_neg c25] at H
                     have c25b0 : decide (((rd_T53 l0 x4_1).f0) < ((rd_T53 l0 (ji22)).f0)) = false := decide_eq_false c25
                     clear c25
                     have H' := Aside0.mk H
                     clear H
                     have p508 : 0 ≤ (x4_1 : Int) := pa
                     have q508 : x4_1 < (l0.length : Int) := pa
                     obtain ⟨ad508, e508, hx508_0, hx508_1⟩ := at_T53 HR0.out x4_1 p508 q508
                     obtain rfl : ad501 = ad508 := (by injection e508)
                     replace p508 := eq_true p508
                     replace q508 := eq_true q508
                     have p509 : 0 ≤ ((ji22) : Int) := pa
                     have q509 : (ji22) < (l0.length : Int) := pa
                     obtain ⟨ad509, e509, hx509_0, hx509_1⟩ := at_T53 HR0.out (ji22) p509 q509
                     obtain rfl : ad501 = ad509 := (by injection e509)
                     replace p509 := eq_true p509
                     replace q509 := eq_true q509
                     go_wp2
                     repeat (go_quiet (fail); try go_wp2)
                     go_roundg kj13
                     case measure => have := HK1.out; have := HJ6.out; have := HJ13.out; omega
                     case rel => exact ⟨(wrap64 (x4_1 + 1)), pr, H', ⟨by have := HK1.out; have := HJ6.out; have := HJ13.out; omega⟩, by repeat (first | exact Drawn0.refl _ | apply Drawn0.step)⟩
                   ·rw [if_neg c24] at H
                    exact absurd H (by simp)
                  ·rw [if_neg c23] at H
                   exact absurd H (by simp)
                 ·rw [if_neg c21] at H
                  exact absurd H (by simp)
                ·rw [if_neg c20] at H
                 exact absurd H (by simp)
               ·rw [if_neg c19] at H
                have c19b0 : (((rd_T53 l0 x4_1).f1) == t504) = false := by first | (simp; done) | (simp at c19; done) | simpa using c19
                (try (have c19b1 : decide (((rd_T53 l0 x4_1).f1) = t504) = false := by first | (simp; done) | (simp at c19; done) | simpa using c19))
                (try (have c19b2 : (((rd_T53 l0 x4_1).f1) == t504) = false := by first | (simp; done) | (simp at c19; done) | simpa using c19))
                (try (have c19b3 : ¬ (((rd_T53 l0 x4_1).f1) = t504) := by first | (simp; done) | (simp at c19; done) | simpa using c19))
                clear c19
                by_cases c26 : 0 ≤ x4_1
                ·rw [if_pos c26] at H
                 have c26b0 : decide (0 ≤ x4_1) = true := decide_eq_true c26
                 clear c26
                 by_cases c27 : x4_1 < (l0.length : Int)
                 ·rw [if_pos c27] at H
                  have c27b0 : decide (x4_1 < (l0.length : Int)) = true := decide_eq_true c27
                  clear c27
                  obtain ⟨ji28, hji28⟩ : ∃ j_ : Int, (wrap64 (x4_1 - 1)) = j_ := ⟨_, rfl⟩
                  replace H : (if 0 ≤ (ji28) then (if (ji28) < (l0.length : Int) then (if (wrap64 (((rd_T53 l0 x4_1).f0) - ((rd_T53 l0 (ji28)).f0))) < 2419199 then (some (x4_1, 7)) else (if ((rd_T53 l0 x4_1).f0) < ((rd_T53 l0 (ji28)).f0) then (some (x4_1, 7)) else (epactref12_Check.l0 kj13 l0 (wrap64 (x4_1 + 1))))) else (none)) else (none)) = some (r1, r2) := by first | (rw [hji28] at H; exact H) | (simp only [hji28] at H ⊢; exact H)
                  have hji28w : (IntKind.i64.wrap (x4_1 - 1)) = ji28 := (i64_w _).trans hji28
                  by_cases c29 : 0 ≤ (ji28)
                  ·rw [if_pos c29] at H
                   have c29b0 : decide (0 ≤ (ji28)) = true := decide_eq_true c29
                   clear c29
                   by_cases c30 : (ji28) < (l0.length : Int)
                   ·rw [if_pos c30] at H
                    have c30b0 : decide ((ji28) < (l0.length : Int)) = true := decide_eq_true c30
                    clear c30
                    by_cases c31 : (wrap64 (((rd_T53 l0 x4_1).f0) - ((rd_T53 l0 (ji28)).f0))) < 2419199
                    ·rw [if_pos c31] at H
                     have c31b0 : decide ((wrap64 (((rd_T53 l0 x4_1).f0) - ((rd_T53 l0 (ji28)).f0))) < 2419199) = true := decide_eq_true c31
                     clear c31
                     simp only [Option.some.injEq, Prod.mk.injEq] at H
                     obtain ⟨rfl, rfl⟩ := H
                     have p510 : 0 ≤ (x4_1 : Int) := pa
                     have q510 : x4_1 < (l0.length : Int) := pa
                     obtain ⟨ad510, e510, hx510_0, hx510_1⟩ := at_T53 HR0.out x4_1 p510 q510
                     obtain rfl : ad501 = ad510 := (by injection e510)
                     replace p510 := eq_true p510
                     replace q510 := eq_true q510
                     have p511 : 0 ≤ ((ji28) : Int) := pa
                     have q511 : (ji28) < (l0.length : Int) := pa
                     obtain ⟨ad511, e511, hx511_0, hx511_1⟩ := at_T53 HR0.out (ji28) p511 q511
                     obtain rfl : ad501 = ad511 := (by injection e511)
                     replace p511 := eq_true p511
                     replace q511 := eq_true q511
                     go_wp2
                     repeat (go_quiet (fail); try go_wp2)
                     go_ret2
                     exact ⟨by first | rfl | (simp; done) | (simp only [← hji28] <;> (first | rfl | simp)) | (simp [*]; done), by repeat (first | exact Drawn0.refl _ | apply Drawn0.step)⟩
                    ·rw [if_neg c31] at H
                     have c31b0 : decide ((wrap64 (((rd_T53 l0 x4_1).f0) - ((rd_T53 l0 (ji28)).f0))) < 2419199) = false := decide_eq_false c31
                     clear c31
                     by_cases c32 : ((rd_T53 l0 x4_1).f0) < ((rd_T53 l0 (ji28)).f0)
                     ·rw [if_pos c32] at H
                      have c32b0 : decide (((rd_T53 l0 x4_1).f0) < ((rd_T53 l0 (ji28)).f0)) = true := decide_eq_true c32
                      clear c32
                      simp only [Option.some.injEq, Prod.mk.injEq] at H
                      obtain ⟨rfl, rfl⟩ := H
                      have p510 : 0 ≤ (x4_1 : Int) := pa
                      have q510 : x4_1 < (l0.length : Int) := pa
                      obtain ⟨ad510, e510, hx510_0, hx510_1⟩ := at_T53 HR0.out x4_1 p510 q510
                      obtain rfl : ad501 = ad510 := (by injection e510)
                      replace p510 := eq_true p510
                      replace q510 := eq_true q510
                      have p511 : 0 ≤ ((ji28) : Int) := pa
                      have q511 : (ji28) < (l0.length : Int) := pa
                      obtain ⟨ad511, e511, hx511_0, hx511_1⟩ := at_T53 HR0.out (ji28) p511 q511
                      obtain rfl : ad501 = ad511 := (by injection e511)
                      replace p511 := eq_true p511
                      replace q511 := eq_true q511
                      have p512 : 0 ≤ (x4_1 : Int) := pa
                      have q512 : x4_1 < (l0.length : Int) := pa
                      obtain ⟨ad512, e512, hx512_0, hx512_1⟩ := at_T53 HR0.out x4_1 p512 q512
                      obtain rfl : ad501 = ad512 := (by injection e512)
                      replace p512 := eq_true p512
                      replace q512 := eq_true q512
                      have p513 : 0 ≤ ((ji28) : Int) := pa
                      have q513 : (ji28) < (l0.length : Int) := pa
                      obtain ⟨ad513, e513, hx513_0, hx513_1⟩ := at_T53 HR0.out (ji28) p513 q513
                      obtain rfl : ad501 = ad513 := (by injection e513)
                      replace p513 := eq_true p513
                      replace q513 := eq_true q513
                      go_wp2
                      repeat (go_quiet (fail); try go_wp2)
                      go_ret2
                      exact ⟨by first | rfl | (simp; done) | (simp only [← hji28] <;> (first | rfl | simp)) | (simp [*]; done), by repeat (first | exact Drawn0.refl _ | apply Drawn0.step)⟩
                     ·rw [if_neg c32] at H
                      have c32b0 : decide (((rd_T53 l0 x4_1).f0) < ((rd_T53 l0 (ji28)).f0)) = false := decide_eq_false c32
                      clear c32
                      have H' := Aside0.mk H
                      clear H
                      have p510 : 0 ≤ (x4_1 : Int) := pa
                      have q510 : x4_1 < (l0.length : Int) := pa
                      obtain ⟨ad510, e510, hx510_0, hx510_1⟩ := at_T53 HR0.out x4_1 p510 q510
                      obtain rfl : ad501 = ad510 := (by injection e510)
                      replace p510 := eq_true p510
                      replace q510 := eq_true q510
                      have p511 : 0 ≤ ((ji28) : Int) := pa
                      have q511 : (ji28) < (l0.length : Int) := pa
                      obtain ⟨ad511, e511, hx511_0, hx511_1⟩ := at_T53 HR0.out (ji28) p511 q511
                      obtain rfl : ad501 = ad511 := (by injection e511)
                      replace p511 := eq_true p511
                      replace q511 := eq_true q511
                      have p512 : 0 ≤ (x4_1 : Int) := pa
                      have q512 : x4_1 < (l0.length : Int) := pa
                      obtain ⟨ad512, e512, hx512_0, hx512_1⟩ := at_T53 HR0.out x4_1 p512 q512
                      obtain rfl : ad501 = ad512 := (by injection e512)
                      replace p512 := eq_true p512
                      replace q512 := eq_true q512
                      have p513 : 0 ≤ ((ji28) : Int) := pa
                      have q513 : (ji28) < (l0.length : Int) := pa
                      obtain ⟨ad513, e513, hx513_0, hx513_1⟩ := at_T53 HR0.out (ji28) p513 q513
                      obtain rfl : ad501 = ad513 := (by injection e513)
                      replace p513 := eq_true p513
                      replace q513 := eq_true q513
                      go_wp2
                      repeat (go_quiet (fail); try go_wp2)
                      go_roundg kj13
                      case measure => have := HK1.out; have := HJ6.out; have := HJ13.out; omega
                      case rel => exact ⟨(wrap64 (x4_1 + 1)), pr, H', ⟨by have := HK1.out; have := HJ6.out; have := HJ13.out; omega⟩, by repeat (first | exact Drawn0.refl _ | apply Drawn0.step)⟩
                   ·rw [if_neg c30] at H
                    exact absurd H (by simp)
                  ·rw [if_neg c29] at H
                   exact absurd H (by simp)
                 ·rw [if_neg c27] at H
                  exact absurd H (by simp)
                ·rw [if_neg c26] at H
                 exact absurd H (by simp)
              ·rw [if_neg c18] at H
               have c18b0 : decide (0 < x4_1) = false := decide_eq_false c18
               clear c18
               have H' := Aside0.mk H
               clear H
               go_wp2
               repeat (go_quiet (fail); try go_wp2)
               go_roundg kj13
               case measure => have := HK1.out; have := HJ6.out; have := HJ13.out; omega
               case rel => exact ⟨(wrap64 (x4_1 + 1)), pr, H', ⟨by have := HK1.out; have := HJ6.out; have := HJ13.out; omega⟩, by repeat (first | exact Drawn0.refl _ | apply Drawn0.step)⟩
         ·rw [if_neg c12] at H
          exact absurd H (by simp)
        ·rw [if_neg c11] at H
         exact absurd H (by simp)
    ·rw [if_neg c3] at H
     exact absurd H (by simp)
   ·rw [if_neg c2] at H
    have c2b0 : decide (x4_1 < (l0.length : Int)) = false := decide_eq_false c2
    clear c2
    simp only [Option.some.injEq, Prod.mk.injEq] at H
    obtain ⟨rfl, rfl⟩ := H
    go_wp2
    repeat (go_quiet (fail); try go_wp2)
    go_ret2
    exact fd

/-! ### epactref12_Right: function 92 -/
def epactref12_Right.f (k : Nat) (l0 : List (S53)) : Option (Bool) := (epactref12_Check.f k l0).bind fun bt514 => (some (bt514.2 == 0))
theorem epactref12_Right.mono : ∀ a0 k, LeO (epactref12_Right.f k a0) (epactref12_Right.f (k + 1) a0) := by
 intro a0 k
 unfold epactref12_Right.f
 repeat' first
   | (with_reducible exact epactref12_Check.mono _ _)
   | (with_reducible exact LeO.refl _)
   | (with_reducible exact LeO.none _)
   | (with_reducible refine LeO.ite ?_ ?_)
   | (with_reducible refine LeO.bind ?_ (fun _ => ?_))
set_option maxHeartbeats 8000000 in
set_option maxRecDepth 100000 in
theorem epactref12_Right.calls (k : Nat) (A0 : Option Addr) (c0 : Nat) (l0 : List (S53)) (r : Bool) (w : World) (hr0 : Kd.C k53 w A0 l0.length l0) (hc0 : l0.length ≤ c0) (h : epactref12_Right.f k l0 = some r) :
  Calls Try.prog 92 #[.slice A0 l0.length c0] w fun e w' => e = .returned (.bool r) ∧ Drawn0 w w' := by
 have HR0 := Aside0.mk hr0
 have HC0 := Aside0.mk hc0
 clear hr0 hc0
 have H : ((epactref12_Check.f k l0).bind fun bt514 => (some (bt514.2 == 0))) = some r := h
 clear h
 obtain ⟨⟨t514, t515⟩, A2, H⟩ := bnd H
 try dsimp only at H
 obtain rfl := Option.some.inj H
 go_enter Try.func92, Try.ntmps92
 go_wp2_with (first | (refine gN (some 7) Try.func103 #[.slice A0 l0.length c0] (epactref12_Check.calls k _ _ l0 t514 t515 _ ?side1 ?side2 A2.out) ?_; (case side1 => exact ca HR0); (case side2 => exact HC0.out); intro nd))
 go_ret
 exact fd

/-! ### epactref22_table: function 70 -/
def epactref22_table.f (k : Nat) (l0 : List (S53)) : Option ((List (S49)) × Bool × Int × Bool) := (epactref12_Right.f k l0).bind fun t517 => (if t517 = true then ((epactref12_Table.f k l0).bind fun bt518 => (some (bt518.1, bt518.2.1, bt518.2.2.1, bt518.2.2.2))) else (some (([] : List (S49)), false, 0, false)))
theorem epactref22_table.mono : ∀ a0 k, LeO (epactref22_table.f k a0) (epactref22_table.f (k + 1) a0) := by
 intro a0 k
 unfold epactref22_table.f
 repeat' first
   | (with_reducible exact epactref12_Right.mono _ _)
   | (with_reducible exact epactref12_Table.mono _ _)
   | (with_reducible exact LeO.refl _)
   | (with_reducible exact LeO.none _)
   | (with_reducible refine LeO.ite ?_ ?_)
   | (with_reducible refine LeO.bind ?_ (fun _ => ?_))
set_option maxHeartbeats 8000000 in
set_option maxRecDepth 100000 in
theorem epactref22_table.calls (k : Nat) (A0 : Option Addr) (c0 : Nat) (l0 : List (S53)) (r1 : List (S49)) (r2 : Bool) (r3 : Int) (r4 : Bool) (w : World) (hr0 : Kd.C k53 w A0 l0.length l0) (hc0 : l0.length ≤ c0) (h : epactref22_table.f k l0 = some (r1, r2, r3, r4)) :
  Calls Try.prog 70 #[.slice A0 l0.length c0] w fun e w' => ∃ v0_ : Value, e = .returned (.tuple #[.agg #[v0_, .bool r2, .int .i64 r3], .bool r4]) ∧ Kd.R k49 49 w' w.heap.size (fun _ => True) v0_ r1 ∧ Below w.heap.size w w' := by
 have hu44 := Try.underlying44
 have HR0 := Aside0.mk hr0
 have HC0 := Aside0.mk hc0
 clear hr0 hc0
 have HB := Aside0.mk (Below.refl w.heap.size w)
 have H : ((epactref12_Right.f k l0).bind fun t517 => (if t517 = true then ((epactref12_Table.f k l0).bind fun bt518 => (some (bt518.1, bt518.2.1, bt518.2.2.1, bt518.2.2.2))) else (some (([] : List (S49)), false, 0, false)))) = some (r1, r2, r3, r4) := h
 clear h
 obtain ⟨t517, A2, H⟩ := bnd H
 try dsimp only at H
 by_cases c3 : t517 = true
 ·subst c3
  rw [if_pos rfl] at H
  obtain ⟨⟨t518, t521, t522, t523⟩, A4, H⟩ := bnd H
  try dsimp only at H
  simp only [Option.some.injEq, Prod.mk.injEq] at H
  obtain ⟨rfl, rfl, rfl, rfl⟩ := H
  go_enter Try.func70, Try.ntmps70
  go_wp2_with (first | (refine bx 2 #[.slice none 0 0, .bool false, .int .i64 0] 44 ?_; intro gb516 hg w5 hbox hb; have n1_ := Aside0.mk (hbox); have GW516 := gw HB hg; have GE516 := gw HB hg; replace HB := bs HB hb; have BK516 := n1_; clear n1_; clear hb hbox hg) | (refine gN (some 5) Try.func92 #[.slice A0 l0.length c0] (epactref12_Right.calls k _ _ l0 true _ ?side1 ?side2 A2.out) ?_; (case side1 => exact cb HR0 HB); (case side2 => exact HC0.out); intro nd; (try (rw [drewN_self w5]; generalize hq_ : World.drewN w5 _ = w5; have n0_ : Aside0 (w5.heap[gb516]? = some (.cells #[.slice none 0 0, .bool false, .int .i64 0] 44 (0, 0))) := ⟨by rw [← hq_]; exact (ka BK516).out⟩; have n1_ : Aside0 (Below w.heap.size w w5) := ⟨by rw [← hq_]; exact (by repeat (first | (with_reducible first | exact HB.out | apply below_alloc | apply pw_below_drewN | apply below_drew1 | refine below_set ?_ GE516.out) | exact HB.out))⟩; clear BK516 HB hq_; have BK516 := n0_; have HB := n1_; clear n0_ n1_))) | (refine gL (some 9) Try.func79 #[.slice A0 l0.length c0] ?_; (with_reducible refine (epactref12_Table.calls k _ _ l0 t518 t521 t522 t523 _ ?side1 ?side2 A4.out).mono ?_); (case side1 => exact cb HR0 HB); (case side2 => exact HC0.out); rintro e w6 ⟨v519, rfl, ho0, hb⟩; refine ⟨_, rfl, ?_⟩; have HO520 := lw ho0 HB; replace BK516 := kb BK516 hb; replace HB := bs HB hb; (try clear hb); (try clear ho0); obtain ⟨Ao7, co7, eo7⟩ := Kd.R_slice HO520.out; subst eo7; have hcz8_0 := bc BK516 0; have hcz8_1 := bc BK516 1; have hcz8_2 := bc BK516 2; have hfz8_0 := bf BK516 0; have hfz8_1 := bf BK516 1; have hfz8_2 := bf BK516 2))
  refine bodyPost_ret (results_ct rfl _ _ gb516 44 #[.slice Ao7 t518.length co7, .bool t521, .int .i64 t522] (0, 0) _ rfl (by (with_reducible repeat (first | refine blk_drewN ?_ _ | refine blk_drew ?_ | refine blk_alloc ?_ _)); refine blk_put (cs := #[.slice Ao7 t518.length co7, .bool t521, .int .i64 0]) ?_ 2 _ rfl; (with_reducible repeat (first | refine blk_drewN ?_ _ | refine blk_drew ?_ | refine blk_alloc ?_ _)); refine blk_put (cs := #[.slice Ao7 t518.length co7, .bool false, .int .i64 0]) ?_ 1 _ rfl; (with_reducible repeat (first | refine blk_drewN ?_ _ | refine blk_drew ?_ | refine blk_alloc ?_ _)); refine blk_put (cs := #[.slice none 0 0, .bool false, .int .i64 0]) ?_ 0 _ rfl; (with_reducible repeat (first | refine blk_drewN ?_ _ | refine blk_drew ?_ | refine blk_alloc ?_ _)); exact BK516.out) Try.underlying44 rfl (by kernel_rfl)) rfl ?_
  exact ⟨_, by first | rfl | (simp [errW_none, errW_some] <;> rfl) | (simp [*, errW_none, errW_some] <;> rfl), by (with_reducible repeat (first | apply Kd.R_alloc | apply Kd.R_drewN | apply Kd.R_drew)); exact Kd.R_mono (Kd.R_far (p := ⟨gb516, 2, none⟩) (Kd.R_far (p := ⟨gb516, 1, none⟩) (Kd.R_far (p := ⟨gb516, 0, none⟩) (Kd.R_types HO520.out BK516.out (by decide)) (fun _ hk => hk.2) (.slice Ao7 t518.length co7)) (fun _ hk => hk.2) (.bool t521)) (fun _ hk => hk.2) (.int .i64 t522)) (fun _ hk => trivial), by repeat (first | (with_reducible first | exact HB.out | apply below_alloc | apply pw_below_drewN | apply below_drew1 | refine below_set ?_ GE516.out) | exact HB.out)⟩
 ·replace c3 := Bool.eq_false_iff.mpr c3
  subst c3
  rw [if_neg (show ¬ (false = true) by decide)] at H
  simp only [Option.some.injEq, Prod.mk.injEq] at H
  obtain ⟨rfl, rfl, rfl, rfl⟩ := H
  go_enter Try.func70, Try.ntmps70
  go_wp2_with (first | (refine bx 2 #[.slice none 0 0, .bool false, .int .i64 0] 44 ?_; intro gb516 hg w9 hbox hb; have n1_ := Aside0.mk (hbox); have GW516 := gw HB hg; have GE516 := gw HB hg; replace HB := bs HB hb; have BK516 := n1_; clear n1_; clear hb hbox hg) | (refine gN (some 5) Try.func92 #[.slice A0 l0.length c0] (epactref12_Right.calls k _ _ l0 false _ ?side1 ?side2 A2.out) ?_; (case side1 => exact cb HR0 HB); (case side2 => exact HC0.out); intro nd; (try (rw [drewN_self w9]; generalize hq_ : World.drewN w9 _ = w9; have n0_ : Aside0 (w9.heap[gb516]? = some (.cells #[.slice none 0 0, .bool false, .int .i64 0] 44 (0, 0))) := ⟨by rw [← hq_]; exact (ka BK516).out⟩; have n1_ : Aside0 (Below w.heap.size w w9) := ⟨by rw [← hq_]; exact (by repeat (first | (with_reducible first | exact HB.out | apply below_alloc | apply pw_below_drewN | apply below_drew1 | refine below_set ?_ GE516.out) | exact HB.out))⟩; clear BK516 HB hq_; have BK516 := n0_; have HB := n1_; clear n0_ n1_)); have hcz10_0 := bc BK516 0; have hcz10_1 := bc BK516 1; have hcz10_2 := bc BK516 2; have hfz10_0 := bf BK516 0; have hfz10_1 := bf BK516 1; have hfz10_2 := bf BK516 2))
  refine bodyPost_ret (results_ct rfl _ _ gb516 44 #[.slice none 0 0, .bool false, .int .i64 0] (0, 0) _ rfl (by (with_reducible repeat (first | refine blk_drewN ?_ _ | refine blk_drew ?_ | refine blk_alloc ?_ _)); refine blk_put (cs := #[.slice none 0 0, .bool false, .int .i64 0]) ?_ 2 _ rfl; (with_reducible repeat (first | refine blk_drewN ?_ _ | refine blk_drew ?_ | refine blk_alloc ?_ _)); refine blk_put (cs := #[.slice none 0 0, .bool false, .int .i64 0]) ?_ 1 _ rfl; (with_reducible repeat (first | refine blk_drewN ?_ _ | refine blk_drew ?_ | refine blk_alloc ?_ _)); refine blk_put (cs := #[.slice none 0 0, .bool false, .int .i64 0]) ?_ 0 _ rfl; (with_reducible repeat (first | refine blk_drewN ?_ _ | refine blk_drew ?_ | refine blk_alloc ?_ _)); exact BK516.out) Try.underlying44 rfl (by kernel_rfl)) rfl ?_
  exact ⟨_, by first | rfl | (simp [errW_none, errW_some] <;> rfl) | (simp [*, errW_none, errW_some] <;> rfl), by first | exact Kd.R_nil _ _ _ _ _ | exact Kd.N_nil _ _ _ _ _ | exact Kd.V_nil _ _ _ _ _ | exact Kd.Q_nil _ _ _ _ _ | exact Kd.S_nil _ _ _ _ _, by repeat (first | (with_reducible first | exact HB.out | apply below_alloc | apply pw_below_drewN | apply below_drew1 | refine below_set ?_ GE516.out) | exact HB.out)⟩

/-! ### epactref22_Known: function 33 -/
def epactref22_Known.f (k : Nat) (l0 : List (S53)) : Option (Bool) := (epactref22_table.f k l0).bind fun bt524 => (some bt524.2.2.2)
theorem epactref22_Known.mono : ∀ a0 k, LeO (epactref22_Known.f k a0) (epactref22_Known.f (k + 1) a0) := by
 intro a0 k
 unfold epactref22_Known.f
 repeat' first
   | (with_reducible exact epactref22_table.mono _ _)
   | (with_reducible exact LeO.refl _)
   | (with_reducible exact LeO.none _)
   | (with_reducible refine LeO.ite ?_ ?_)
   | (with_reducible refine LeO.bind ?_ (fun _ => ?_))
set_option maxHeartbeats 8000000 in
set_option maxRecDepth 100000 in
theorem epactref22_Known.calls (k : Nat) (A0 : Option Addr) (c0 : Nat) (l0 : List (S53)) (r : Bool) (w : World) (hr0 : Kd.C k53 w A0 l0.length l0) (hc0 : l0.length ≤ c0) (h : epactref22_Known.f k l0 = some r) :
  Calls Try.prog 33 #[.slice A0 l0.length c0] w fun e w' => e = .returned (.bool r) ∧ Below w.heap.size w w' := by
 have hu44 := Try.underlying44
 have HR0 := Aside0.mk hr0
 have HC0 := Aside0.mk hc0
 clear hr0 hc0
 have HB := Aside0.mk (Below.refl w.heap.size w)
 have H : ((epactref22_table.f k l0).bind fun bt524 => (some bt524.2.2.2)) = some r := h
 clear h
 obtain ⟨⟨t524, t527, t528, t529⟩, A2, H⟩ := bnd H
 try dsimp only at H
 obtain rfl := Option.some.inj H
 go_enter Try.func33, Try.ntmps33
 go_wp2_with (first | (refine gL (some 7) Try.func70 #[.slice A0 l0.length c0] ?_; (with_reducible refine (epactref22_table.calls k _ _ l0 t524 t527 t528 t529 _ ?side1 ?side2 A2.out).mono ?_); (case side1 => exact ca HR0); (case side2 => exact HC0.out); rintro e w3 ⟨v525, rfl, ho0, hb⟩; refine ⟨_, rfl, ?_⟩; have HO526 := lw ho0 HB; replace HB := bs HB hb; (try clear hb); (try clear ho0)) | (refine bx 3 #[.slice none 0 0, .bool false, .int .i64 0] 44 ?_; intro gb530 hg w4 hbox hb; have n2_ := Aside0.mk (hbox); have GW530 := gw HB hg; have GE530 := gw HB hg; replace HO526 := rb HO526 hb; replace HB := bs HB hb; have BK530 := n2_; clear n2_; clear hb hbox hg; obtain ⟨Ao5, co5, eo5⟩ := Kd.R_slice HO526.out; subst eo5; have hcz6_0 := bc BK530 0; have hcz6_1 := bc BK530 1; have hcz6_2 := bc BK530 2; have hfz6_0 := bf BK530 0; have hfz6_1 := bf BK530 1; have hfz6_2 := bf BK530 2))
 go_ret
 exact fi HB

/-! ### epactref09_Step: function 94 -/
def epactref09_Step.l0 : Nat → Int → Int → List (S49) → Bool → Int → Option (Int)
 | 0, _, _, _, _, _ => none
 | k + 1, x1, x5, x532000, x532001, x532002 => if x5 < (x532000.length : Int) then (if 0 ≤ x5 then (if ((rd_T49 x532000 x5).f0) = x1 then (some ((rd_T49 x532000 x5).f1)) else (epactref09_Step.l0 k x1 (wrap64 (x5 + 1)) x532000 x532001 x532002)) else (none)) else (some 0)
def epactref09_Step.f (k : Nat) (l0_0 : List (S49)) (a0_1 : Bool) (a0_2 : Int) (a1 : Int) : Option (Int) := epactref09_Step.l0 k a1 0 l0_0 a0_1 a0_2
theorem epactref09_Step.mono_l : ∀ k, (∀ y0 y1 y2 y3 y4, LeO (epactref09_Step.l0 k y0 y1 y2 y3 y4) (epactref09_Step.l0 (k + 1) y0 y1 y2 y3 y4))
 | 0 => fun _ _ _ _ _ r h => by simp [epactref09_Step.l0] at h
 | k + 1 => by
  have ih0 := epactref09_Step.mono_l k
  ·intro y0 y1 y2 y3 y4
   unfold epactref09_Step.l0
   repeat' first
   | (with_reducible exact ih0 _ _ _ _ _)
   | (with_reducible exact LeO.refl _)
   | (with_reducible exact LeO.none _)
   | (with_reducible refine LeO.ite ?_ ?_)
   | (with_reducible refine LeO.bind ?_ (fun _ => ?_))
theorem epactref09_Step.mono : ∀ a0 a1 a2 a3 k, LeO (epactref09_Step.f k a0 a1 a2 a3) (epactref09_Step.f (k + 1) a0 a1 a2 a3) := by
 intro a0 a1 a2 a3 k
 have ih0 := epactref09_Step.mono_l k
 unfold epactref09_Step.f
 repeat' first
   | (with_reducible exact ih0 _ _ _ _ _)
   | (with_reducible exact LeO.refl _)
   | (with_reducible exact LeO.none _)
   | (with_reducible refine LeO.ite ?_ ?_)
   | (with_reducible refine LeO.bind ?_ (fun _ => ?_))
set_option maxHeartbeats 8000000 in
set_option maxRecDepth 100000 in
theorem epactref09_Step.calls (k : Nat) (A0_0 : Option Addr) (c0_0 : Nat) (l0_0 : List (S49)) (a0_1 : Bool) (a0_2 : Int) (a1 : Int) (r : Int) (w : World) (hr0_0 : Kd.C k49 w A0_0 l0_0.length l0_0) (hc0_0 : l0_0.length ≤ c0_0) (h : epactref09_Step.f k l0_0 a0_1 a0_2 a1 = some r) :
  Calls Try.prog 94 #[.agg #[.slice A0_0 l0_0.length c0_0, .bool a0_1, .int .i64 a0_2], .int .i64 a1] w fun e w' => e = .returned (.int .i64 r) ∧ Below w.heap.size w w' := by
 have hu44 := Try.underlying44
 have HR0_0 := Aside0.mk hr0_0
 have HC0_0 := Aside0.mk hc0_0
 clear hr0_0 hc0_0
 have HB := Aside0.mk (Below.refl w.heap.size w)
 have H : (epactref09_Step.l0 k a1 0 l0_0 a0_1 a0_2) = some r := h
 clear h
 have H' := Aside0.mk H
 clear H
 go_enter Try.func94, Try.ntmps94
 go_wp2_with (first | (refine bx 2 #[.slice A0_0 l0_0.length c0_0, .bool a0_1, .int .i64 a0_2] 44 ?_; intro gb531 hg w3 hbox hb; have n1_ := Aside0.mk (hbox); have GW531 := gw HB hg; have GE531 := gw HB hg; replace HB := bs HB hb; have BK531 := n1_; clear n1_; clear hb hbox hg))
 go_loopg [5] k (fun kq v5 w' => ∃ (x5_1 : Int), v5 = .int .i64 x5_1 ∧ Aside0 (epactref09_Step.l0 kq a1 x5_1 l0_0 a0_1 a0_2 = some r) ∧ Aside0 (kq ≤ k) ∧ Aside0 (w'.heap[gb531]? = some (.cells #[(.slice A0_0 l0_0.length c0_0), .bool a0_1, .int .i64 a0_2] 44 (0, 0))) ∧ Aside0 (Below w.heap.size w w'))
 case atStart => exact ⟨(0), pr, H', ⟨Nat.le_refl _⟩, ka BK531, ba HB⟩
 case round =>
  clear H'
  try clear p2
  obtain ⟨x5_1, rfl, HA, HK1, BK531, HB⟩ := hrel
  cases gk with
  | zero => exact absurd HA.out (by simp [epactref09_Step.l0])
  | succ k1 =>
   have H := HA.out
   clear HA
   simp only [epactref09_Step.l0] at H
   by_cases c4 : x5_1 < (l0_0.length : Int)
   ·rw [if_pos c4] at H
    have c4b0 : decide (x5_1 < (l0_0.length : Int)) = true := decide_eq_true c4
    clear c4
    by_cases c5 : 0 ≤ x5_1
    ·rw [if_pos c5] at H
     have c5b0 : decide (0 ≤ x5_1) = true := decide_eq_true c5
     clear c5
     by_cases c6 : ((rd_T49 l0_0 x5_1).f0) = a1
     ·rw [if_pos c6] at H
      have c6b0 : (((rd_T49 l0_0 x5_1).f0) == a1) = true := beq_iff_eq.mpr c6
      have c6b1 : (((rd_T49 l0_0 x5_1).f0) != a1) = false := bne_eq_false_iff_eq.mpr c6
      clear c6
      obtain rfl := Option.some.inj H
      have hcz7_0 := bc BK531 0
      have hcz7_1 := bc BK531 1
      have hcz7_2 := bc BK531 2
      have hfz7_0 := bf BK531 0
      have hfz7_1 := bf BK531 1
      have hfz7_2 := bf BK531 2
      have p532 : 0 ≤ (x5_1 : Int) := pa
      have q532 : x5_1 < (l0_0.length : Int) := pa
      obtain ⟨ad532, e532, hx532_0, hx532_1, hx532_2⟩ := at_T49 HR0_0.out x5_1 p532 q532
      cases e532
      replace hx532_0 := hx HB hx532_0
      replace hx532_1 := hx HB hx532_1
      replace hx532_2 := hx HB hx532_2
      replace p532 := eq_true p532
      replace q532 := eq_true q532
      have p533 : 0 ≤ (x5_1 : Int) := pa
      have q533 : x5_1 < (l0_0.length : Int) := pa
      obtain ⟨ad533, e533, hx533_0, hx533_1, hx533_2⟩ := at_T49 HR0_0.out x5_1 p533 q533
      obtain rfl : ad532 = ad533 := (by injection e533)
      replace hx533_0 := hx HB hx533_0
      replace hx533_1 := hx HB hx533_1
      replace hx533_2 := hx HB hx533_2
      replace p533 := eq_true p533
      replace q533 := eq_true q533
      go_wp2
      go_ret
      exact fi HB
     ·rw [if_neg c6] at H
      have c6b0 : (((rd_T49 l0_0 x5_1).f0) == a1) = false := beq_eq_false_iff_ne.mpr c6
      have c6b1 : (((rd_T49 l0_0 x5_1).f0) != a1) = true := bne_iff_ne.mpr c6
      have H' := Aside0.mk H
      clear H
      have hcz8_0 := bc BK531 0
      have hcz8_1 := bc BK531 1
      have hcz8_2 := bc BK531 2
      have hfz8_0 := bf BK531 0
      have hfz8_1 := bf BK531 1
      have hfz8_2 := bf BK531 2
      have p532 : 0 ≤ (x5_1 : Int) := pa
      have q532 : x5_1 < (l0_0.length : Int) := pa
      obtain ⟨ad532, e532, hx532_0, hx532_1, hx532_2⟩ := at_T49 HR0_0.out x5_1 p532 q532
      cases e532
      replace hx532_0 := hx HB hx532_0
      replace hx532_1 := hx HB hx532_1
      replace hx532_2 := hx HB hx532_2
      replace p532 := eq_true p532
      replace q532 := eq_true q532
      go_wp2
      go_roundg k1
      case measure => have := HK1.out; omega
      case rel => exact ⟨(wrap64 (x5_1 + 1)), pr, H', ⟨by have := HK1.out; omega⟩, ka BK531, ba HB⟩
    ·rw [if_neg c5] at H
     exact absurd H (by simp)
   ·rw [if_neg c4] at H
    have c4b0 : decide (x5_1 < (l0_0.length : Int)) = false := decide_eq_false c4
    clear c4
    obtain rfl := Option.some.inj H
    have hcz9_0 := bc BK531 0
    have hcz9_1 := bc BK531 1
    have hcz9_2 := bc BK531 2
    have hfz9_0 := bf BK531 0
    have hfz9_1 := bf BK531 1
    have hfz9_2 := bf BK531 2
    go_wp2
    go_ret
    exact fi HB

end Go.Proofs.Ythoigncoojcanaa.PAll
