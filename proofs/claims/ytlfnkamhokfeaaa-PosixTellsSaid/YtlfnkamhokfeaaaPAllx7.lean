-- Written for this claim by wip/tools of this repo (after the kit's print; own contracts laid in).
import Derived.Test.YtlfnkamhokfeaaaPAllx0
import Derived.Test.YtlfnkamhokfeaaaPAllx6
namespace Go.Proofs.Ytlfnkamhokfeaaa.PAll
open Go.RowKit Go.Proofs.YtlfnkamhokfeaaaW.PrintWords Go.Proofs.YtlfnkamhokfeaaaW.PrintLast Go.Proofs.YtlfnkamhokfeaaaW.PrintMore
attribute [local go_sem] max2_int min2_int max_two min_two max_three min_three max_four min_four   -- for this text's walks alone
set_option linter.unusedVariables false
set_option linter.unusedSimpArgs false

/-! ### epactref12_Check: function 56 -/
mutual
def epactref12_Check.l0 : Nat → List (S40) → Int → Option (Int × Int)
  | 0, _, _ => none
  | k + 1, x0, x4 => if x4 < (x0.length : Int) then (if 0 ≤ x4 then ((epactref12_ahead.f x0 x4).bind fun t249 => ((epactref12_ahead.f x0 x4).bind fun t251 => ((epactref01_Sub.f ((rd_T40 x0 x4).f1) t251).bind fun bt252 => (if bt252.2 = true then (if bt252.1 = 1 then (epactref12_Check.j1 k x0 x4 (x4 == (wrap64 ((x0.length : Int) - 1))) (((rd_T40 x0 x4).f1) == t249) true) else (epactref12_Check.j1 k x0 x4 (x4 == (wrap64 ((x0.length : Int) - 1))) (((rd_T40 x0 x4).f1) == t249) (bt252.1 == (-1)))) else (epactref12_Check.j1 k x0 x4 (x4 == (wrap64 ((x0.length : Int) - 1))) (((rd_T40 x0 x4).f1) == t249) false))))) else (none)) else (some ((x0.length : Int), 0))
def epactref12_Check.j1 : Nat → List (S40) → Int → Bool → Bool → Bool → Option (Int × Int)
  | 0, _, _, _, _, _ => none
  | k + 1, x0, x4, x5, x6, x9 => if x4 > 200 then (some (x4, 8)) else (if 0 ≤ x4 then (if x4 < (x0.length : Int) then (if ((rd_T40 x0 x4).f0) < 0 then (some (x4, 9)) else (if x9 = true then (epactref12_Check.j2 k x0 x4 x6 false) else (if x5 = true then (epactref12_Check.j2 k x0 x4 x6 (!x6)) else (epactref12_Check.j2 k x0 x4 x6 (!false))))) else (none)) else (none))
def epactref12_Check.j2 : Nat → List (S40) → Int → Bool → Bool → Option (Int × Int)
  | 0, _, _, _, _ => none
  | k + 1, x0, x4, x6, x69 => if x69 = true then (some (x4, 6)) else (if x4 > 0 then (if x6 = true then (if 0 ≤ x4 then (if x4 < (x0.length : Int) then (if 0 ≤ (wrap64 (x4 - 1)) then (if (wrap64 (x4 - 1)) < (x0.length : Int) then (if ((rd_T40 x0 x4).f0) < ((rd_T40 x0 (wrap64 (x4 - 1))).f0) then (some (x4, 7)) else (epactref12_Check.l0 k x0 (wrap64 (x4 + 1)))) else (none)) else (none)) else (none)) else (none)) else (if 0 ≤ x4 then (if x4 < (x0.length : Int) then (if 0 ≤ (wrap64 (x4 - 1)) then (if (wrap64 (x4 - 1)) < (x0.length : Int) then (if (wrap64 (((rd_T40 x0 x4).f0) - ((rd_T40 x0 (wrap64 (x4 - 1))).f0))) < 2419199 then (some (x4, 7)) else (if ((rd_T40 x0 x4).f0) < ((rd_T40 x0 (wrap64 (x4 - 1))).f0) then (some (x4, 7)) else (epactref12_Check.l0 k x0 (wrap64 (x4 + 1))))) else (none)) else (none)) else (none)) else (none))) else (epactref12_Check.l0 k x0 (wrap64 (x4 + 1))))
end
def epactref12_Check.f (k : Nat) (l0 : List (S40)) : Option (Int × Int) := epactref12_Check.l0 k l0 0
theorem epactref12_Check.mono_l : ∀ k, (∀ y0 y1, LeO (epactref12_Check.l0 k y0 y1) (epactref12_Check.l0 (k + 1) y0 y1)) ∧ (∀ y0 y1 y2 y3 y4, LeO (epactref12_Check.j1 k y0 y1 y2 y3 y4) (epactref12_Check.j1 (k + 1) y0 y1 y2 y3 y4)) ∧ (∀ y0 y1 y2 y3, LeO (epactref12_Check.j2 k y0 y1 y2 y3) (epactref12_Check.j2 (k + 1) y0 y1 y2 y3))
  | 0 => ⟨fun _ _ r h => by simp [epactref12_Check.l0] at h, fun _ _ _ _ _ r h => by simp [epactref12_Check.j1] at h, fun _ _ _ _ r h => by simp [epactref12_Check.j2] at h⟩
  | k + 1 => by
    obtain ⟨ih0, ih1, ih2⟩ := epactref12_Check.mono_l k
    refine ⟨?_, ?_, ?_⟩
    · intro y0 y1
      unfold epactref12_Check.l0
      repeat' first
      | (with_reducible exact ih0 _ _)
      | (with_reducible exact ih1 _ _ _ _ _)
      | (with_reducible exact ih2 _ _ _ _)
      | (with_reducible exact LeO.refl _)
      | (with_reducible exact LeO.none _)
      | (with_reducible refine LeO.ite ?_ ?_)
      | (with_reducible refine LeO.bind ?_ (fun _ => ?_))
      | exact ih0 _ _
      | exact ih1 _ _ _ _ _
      | exact ih2 _ _ _ _
      | exact LeO.none _
      | refine LeO.ite ?_ ?_
      | refine LeO.bind ?_ (fun _ => ?_)
    · intro y0 y1 y2 y3 y4
      unfold epactref12_Check.j1
      repeat' first
      | (with_reducible exact ih0 _ _)
      | (with_reducible exact ih1 _ _ _ _ _)
      | (with_reducible exact ih2 _ _ _ _)
      | (with_reducible exact LeO.refl _)
      | (with_reducible exact LeO.none _)
      | (with_reducible refine LeO.ite ?_ ?_)
      | (with_reducible refine LeO.bind ?_ (fun _ => ?_))
      | exact ih0 _ _
      | exact ih1 _ _ _ _ _
      | exact ih2 _ _ _ _
      | exact LeO.none _
      | refine LeO.ite ?_ ?_
      | refine LeO.bind ?_ (fun _ => ?_)
    · intro y0 y1 y2 y3
      unfold epactref12_Check.j2
      repeat' first
      | (with_reducible exact ih0 _ _)
      | (with_reducible exact ih1 _ _ _ _ _)
      | (with_reducible exact ih2 _ _ _ _)
      | (with_reducible exact LeO.refl _)
      | (with_reducible exact LeO.none _)
      | (with_reducible refine LeO.ite ?_ ?_)
      | (with_reducible refine LeO.bind ?_ (fun _ => ?_))
      | exact ih0 _ _
      | exact ih1 _ _ _ _ _
      | exact ih2 _ _ _ _
      | exact LeO.none _
      | refine LeO.ite ?_ ?_
      | refine LeO.bind ?_ (fun _ => ?_)
theorem epactref12_Check.mono : ∀ a0 k, LeO (epactref12_Check.f k a0) (epactref12_Check.f (k + 1) a0) := by
  intro a0 k
  obtain ⟨ih0, ih1, ih2⟩ := epactref12_Check.mono_l k
  unfold epactref12_Check.f
  repeat' first
      | (with_reducible exact ih0 _ _)
      | (with_reducible exact ih1 _ _ _ _ _)
      | (with_reducible exact ih2 _ _ _ _)
      | (with_reducible exact LeO.refl _)
      | (with_reducible exact LeO.none _)
      | (with_reducible refine LeO.ite ?_ ?_)
      | (with_reducible refine LeO.bind ?_ (fun _ => ?_))
      | exact ih0 _ _
      | exact ih1 _ _ _ _ _
      | exact ih2 _ _ _ _
      | exact LeO.none _
      | refine LeO.ite ?_ ?_
      | refine LeO.bind ?_ (fun _ => ?_)
set_option maxHeartbeats 8000000 in
set_option maxRecDepth 100000 in
theorem epactref12_Check.calls (k : Nat) (A0 : Option Addr) (c0 : Nat) (l0 : List (S40)) (r1 : Int) (r2 : Int) (w : World) (hr0 : Kd.C k40 w A0 l0.length l0) (hc0 : l0.length ≤ c0) (h : epactref12_Check.f k l0 = some (r1, r2)) :
    Calls Try.prog 56 #[.slice A0 l0.length c0] w fun e w' => e = .returned (.tuple #[.int .i64 r1, .int .i64 r2]) ∧ Drawn0 w w' := by
  have HR0 := Aside0.mk hr0
  have HC0 := Aside0.mk hc0
  clear hr0 hc0
  have H : (epactref12_Check.l0 k l0 0) = some (r1, r2) := h
  clear h
  have H' := Aside0.mk H
  clear H
  go_enter Try.func56, Try.ntmps56
  go_wp2
  repeat (go_quiet (fail); try go_wp2)
  go_loopg [4] k (fun kq v4 w' => ∃ (x4_1 : Int), v4 = .int .i64 x4_1 ∧ Aside0 (epactref12_Check.l0 kq l0 x4_1 = some (r1, r2)) ∧ Aside0 (kq ≤ k) ∧ Drawn0 w w')
  case atStart => exact ⟨(0), (by first | rfl | (simp; done) | (simp [*]; done)), H', ⟨Nat.le_refl _⟩, by repeat (first | exact Drawn0.refl _ | apply Drawn0.step)⟩
  case round =>
    clear H'
    obtain ⟨x4_1, rfl, HA, HK1, ⟨m1, rfl⟩⟩ := hrel
    cases gk with
    | zero => exact absurd HA.out (by simp [epactref12_Check.l0])
    | succ k1 =>
      have H := HA.out
      clear HA
      simp only [epactref12_Check.l0] at H
      by_cases c2 : x4_1 < (l0.length : Int)
      · rw [if_pos c2] at H
        have c2b0 : decide (x4_1 < (l0.length : Int)) = true := decide_eq_true c2
        clear c2
        by_cases c3 : 0 ≤ x4_1
        · rw [if_pos c3] at H
          have c3b0 : decide (0 ≤ x4_1) = true := decide_eq_true c3
          clear c3
          replace H := Option.bind_eq_some_iff.mp H
          obtain ⟨t249, A40, H⟩ := H
          replace H : ((epactref12_ahead.f l0 x4_1).bind fun t251 => ((epactref01_Sub.f ((rd_T40 l0 x4_1).f1) t251).bind fun bt252 => (if bt252.2 = true then (if bt252.1 = 1 then (epactref12_Check.j1 k1 l0 x4_1 (x4_1 == (wrap64 ((l0.length : Int) - 1))) (((rd_T40 l0 x4_1).f1) == t249) true) else (epactref12_Check.j1 k1 l0 x4_1 (x4_1 == (wrap64 ((l0.length : Int) - 1))) (((rd_T40 l0 x4_1).f1) == t249) (bt252.1 == (-1)))) else (epactref12_Check.j1 k1 l0 x4_1 (x4_1 == (wrap64 ((l0.length : Int) - 1))) (((rd_T40 l0 x4_1).f1) == t249) false)))) = some (r1, r2) := H
          have A4 := Aside0.mk A40
          clear A40
          replace H := Option.bind_eq_some_iff.mp H
          obtain ⟨t251, A50, H⟩ := H
          replace H : ((epactref01_Sub.f ((rd_T40 l0 x4_1).f1) t251).bind fun bt252 => (if bt252.2 = true then (if bt252.1 = 1 then (epactref12_Check.j1 k1 l0 x4_1 (x4_1 == (wrap64 ((l0.length : Int) - 1))) (((rd_T40 l0 x4_1).f1) == t249) true) else (epactref12_Check.j1 k1 l0 x4_1 (x4_1 == (wrap64 ((l0.length : Int) - 1))) (((rd_T40 l0 x4_1).f1) == t249) (bt252.1 == (-1)))) else (epactref12_Check.j1 k1 l0 x4_1 (x4_1 == (wrap64 ((l0.length : Int) - 1))) (((rd_T40 l0 x4_1).f1) == t249) false))) = some (r1, r2) := H
          have A5 := Aside0.mk A50
          clear A50
          (try (obtain rfl : t251 = t249 := Option.some.inj (A5.out.symm.trans A4.out)))
          replace H := Option.bind_eq_some_iff.mp H
          obtain ⟨⟨t252, t253⟩, A60, H⟩ := H
          replace H : (if t253 = true then (if t252 = 1 then (epactref12_Check.j1 k1 l0 x4_1 (x4_1 == (wrap64 ((l0.length : Int) - 1))) (((rd_T40 l0 x4_1).f1) == t251) true) else (epactref12_Check.j1 k1 l0 x4_1 (x4_1 == (wrap64 ((l0.length : Int) - 1))) (((rd_T40 l0 x4_1).f1) == t251) (t252 == (-1)))) else (epactref12_Check.j1 k1 l0 x4_1 (x4_1 == (wrap64 ((l0.length : Int) - 1))) (((rd_T40 l0 x4_1).f1) == t251) false)) = some (r1, r2) := H
          have A6 := Aside0.mk A60
          clear A60
          have HC7 := Aside0.mk H
          clear H
          have p248 : 0 ≤ (x4_1 : Int) := of_decide_eq_true (by first | (with_reducible assumption) | assumption)
          have q248 : x4_1 < (l0.length : Int) := of_decide_eq_true (by first | (with_reducible assumption) | assumption)
          obtain ⟨ad248, e248, hx248_0, hx248_1⟩ := at_T40 HR0.out x4_1 p248 q248
          cases e248
          replace p248 := eq_true p248
          replace q248 := eq_true q248
          go_upto_region 7 with (first | (go_at_call 60; (with_reducible refine (epactref12_ahead.calls _ _ l0 x4_1 t251 _ ?side1 ?side2 A4.out).mono ?_); (case side1 => repeat (first | exact HR0.out | (with_reducible refine Kd.C_alloc ?_ _) | (with_reducible refine Kd.C_drewN ?_ _) | (with_reducible refine Kd.C_drew ?_))); (case side2 => exact HC0.out); rintro e w' ⟨rfl, ⟨nd, rfl⟩⟩; (try first | exact ⟨rfl, _, World.drewN_drewN _ _ _⟩ | exact ⟨rfl, _, Eq.trans (World.drewN_drewN _ _ _) (congrArg (World.drewN _) (Nat.add_assoc _ _ _))⟩); have p250 : 0 ≤ (x4_1 : Int) := of_decide_eq_true (by first | (with_reducible assumption) | assumption); have q250 : x4_1 < (l0.length : Int) := of_decide_eq_true (by first | (with_reducible assumption) | assumption); obtain ⟨ad250, e250, hx250_0, hx250_1⟩ := at_T40 HR0.out x4_1 p250 q250; obtain rfl : ad248 = ad250 := (by injection e250); replace p250 := eq_true p250; replace q250 := eq_true q250) | (go_at_call 60; (with_reducible refine (epactref12_ahead.calls _ _ l0 x4_1 t251 _ ?side1 ?side2 A5.out).mono ?_); (case side1 => repeat (first | exact HR0.out | (with_reducible refine Kd.C_alloc ?_ _) | (with_reducible refine Kd.C_drewN ?_ _) | (with_reducible refine Kd.C_drew ?_))); (case side2 => exact HC0.out); rintro e w' ⟨rfl, ⟨nd, rfl⟩⟩; (try first | exact ⟨rfl, _, World.drewN_drewN _ _ _⟩ | exact ⟨rfl, _, Eq.trans (World.drewN_drewN _ _ _) (congrArg (World.drewN _) (Nat.add_assoc _ _ _))⟩)) | (go_at_call 61; (with_reducible refine (epactref01_Sub.calls ((rd_T40 l0 x4_1).f1) t251 t252 t253 _ A6.out).mono ?_); rintro e w' ⟨rfl, ⟨nd, rfl⟩⟩; (try first | exact ⟨rfl, _, World.drewN_drewN _ _ _⟩ | exact ⟨rfl, _, Eq.trans (World.drewN_drewN _ _ _) (congrArg (World.drewN _) (Nat.add_assoc _ _ _))⟩)))
          repeat (go_quiet (first | (go_at_call 60; (with_reducible refine (epactref12_ahead.calls _ _ l0 x4_1 t251 _ ?side1 ?side2 A4.out).mono ?_); (case side1 => repeat (first | exact HR0.out | (with_reducible refine Kd.C_alloc ?_ _) | (with_reducible refine Kd.C_drewN ?_ _) | (with_reducible refine Kd.C_drew ?_))); (case side2 => exact HC0.out); rintro e w' ⟨rfl, ⟨nd, rfl⟩⟩; (try first | exact ⟨rfl, _, World.drewN_drewN _ _ _⟩ | exact ⟨rfl, _, Eq.trans (World.drewN_drewN _ _ _) (congrArg (World.drewN _) (Nat.add_assoc _ _ _))⟩); have p250 : 0 ≤ (x4_1 : Int) := of_decide_eq_true (by first | (with_reducible assumption) | assumption); have q250 : x4_1 < (l0.length : Int) := of_decide_eq_true (by first | (with_reducible assumption) | assumption); obtain ⟨ad250, e250, hx250_0, hx250_1⟩ := at_T40 HR0.out x4_1 p250 q250; obtain rfl : ad248 = ad250 := (by injection e250); replace p250 := eq_true p250; replace q250 := eq_true q250) | (go_at_call 60; (with_reducible refine (epactref12_ahead.calls _ _ l0 x4_1 t251 _ ?side1 ?side2 A5.out).mono ?_); (case side1 => repeat (first | exact HR0.out | (with_reducible refine Kd.C_alloc ?_ _) | (with_reducible refine Kd.C_drewN ?_ _) | (with_reducible refine Kd.C_drew ?_))); (case side2 => exact HC0.out); rintro e w' ⟨rfl, ⟨nd, rfl⟩⟩; (try first | exact ⟨rfl, _, World.drewN_drewN _ _ _⟩ | exact ⟨rfl, _, Eq.trans (World.drewN_drewN _ _ _) (congrArg (World.drewN _) (Nat.add_assoc _ _ _))⟩)) | (go_at_call 61; (with_reducible refine (epactref01_Sub.calls ((rd_T40 l0 x4_1).f1) t251 t252 t253 _ A6.out).mono ?_); rintro e w' ⟨rfl, ⟨nd, rfl⟩⟩; (try first | exact ⟨rfl, _, World.drewN_drewN _ _ _⟩ | exact ⟨rfl, _, Eq.trans (World.drewN_drewN _ _ _) (congrArg (World.drewN _) (Nat.add_assoc _ _ _))⟩))); go_upto_region 7 with (first | (go_at_call 60; (with_reducible refine (epactref12_ahead.calls _ _ l0 x4_1 t251 _ ?side1 ?side2 A4.out).mono ?_); (case side1 => repeat (first | exact HR0.out | (with_reducible refine Kd.C_alloc ?_ _) | (with_reducible refine Kd.C_drewN ?_ _) | (with_reducible refine Kd.C_drew ?_))); (case side2 => exact HC0.out); rintro e w' ⟨rfl, ⟨nd, rfl⟩⟩; (try first | exact ⟨rfl, _, World.drewN_drewN _ _ _⟩ | exact ⟨rfl, _, Eq.trans (World.drewN_drewN _ _ _) (congrArg (World.drewN _) (Nat.add_assoc _ _ _))⟩); have p250 : 0 ≤ (x4_1 : Int) := of_decide_eq_true (by first | (with_reducible assumption) | assumption); have q250 : x4_1 < (l0.length : Int) := of_decide_eq_true (by first | (with_reducible assumption) | assumption); obtain ⟨ad250, e250, hx250_0, hx250_1⟩ := at_T40 HR0.out x4_1 p250 q250; obtain rfl : ad248 = ad250 := (by injection e250); replace p250 := eq_true p250; replace q250 := eq_true q250) | (go_at_call 60; (with_reducible refine (epactref12_ahead.calls _ _ l0 x4_1 t251 _ ?side1 ?side2 A5.out).mono ?_); (case side1 => repeat (first | exact HR0.out | (with_reducible refine Kd.C_alloc ?_ _) | (with_reducible refine Kd.C_drewN ?_ _) | (with_reducible refine Kd.C_drew ?_))); (case side2 => exact HC0.out); rintro e w' ⟨rfl, ⟨nd, rfl⟩⟩; (try first | exact ⟨rfl, _, World.drewN_drewN _ _ _⟩ | exact ⟨rfl, _, Eq.trans (World.drewN_drewN _ _ _) (congrArg (World.drewN _) (Nat.add_assoc _ _ _))⟩)) | (go_at_call 61; (with_reducible refine (epactref01_Sub.calls ((rd_T40 l0 x4_1).f1) t251 t252 t253 _ A6.out).mono ?_); rintro e w' ⟨rfl, ⟨nd, rfl⟩⟩; (try first | exact ⟨rfl, _, World.drewN_drewN _ _ _⟩ | exact ⟨rfl, _, Eq.trans (World.drewN_drewN _ _ _) (congrArg (World.drewN _) (Nat.add_assoc _ _ _))⟩))))
          (try simp only [Act.put, List.setIfInBounds_toArray, List.set_cons_zero, List.set_cons_succ])
          go_cut [9] (fun v9 wc => ∃ (kq : Nat) (x9_6 : Bool), v9 = .bool x9_6 ∧ Aside0 (epactref12_Check.j1 kq l0 x4_1 (x4_1 == (wrap64 ((l0.length : Int) - 1))) (((rd_T40 l0 x4_1).f1) == t251) x9_6 = some (r1, r2)) ∧ Aside0 (kq ≤ k1) ∧ Drawn0 w wc)
          case first =>
            have H := HC7.out
            clear HC7
            by_cases c8 : t253 = true
            · subst c8
              have H1 : (if t252 = 1 then (epactref12_Check.j1 k1 l0 x4_1 (x4_1 == (wrap64 ((l0.length : Int) - 1))) (((rd_T40 l0 x4_1).f1) == t251) true) else (epactref12_Check.j1 k1 l0 x4_1 (x4_1 == (wrap64 ((l0.length : Int) - 1))) (((rd_T40 l0 x4_1).f1) == t251) (t252 == (-1)))) = some (r1, r2) := by rw [if_pos rfl] at H; exact H
              clear H
              have H := H1
              clear H1
              by_cases c9 : t252 = 1
              · rw [if_pos c9] at H
                have c9b0 : (t252 == 1) = true := beq_iff_eq.mpr c9
                have c9b1 : (t252 != 1) = false := bne_eq_false_iff_eq.mpr c9
                clear c9
                (first | rw [c9b0] | (simp only [i64_w, i32_w]; rw [c9b0]) | skip)
                have H' := Aside0.mk H
                clear H
                go_wp2
                repeat (go_quiet (fail); try go_wp2)
                go_meet
                case rel => exact ⟨_, (true), (by first | rfl | (simp; done) | (simp [*]; done)), H', ⟨by have := HK1.out; first | omega | exact Nat.le_refl _⟩, by repeat (first | exact Drawn0.refl _ | apply Drawn0.step)⟩
              · rw [if_neg c9] at H
                have c9b0 : (t252 == 1) = false := beq_eq_false_iff_ne.mpr c9
                have c9b1 : (t252 != 1) = true := bne_iff_ne.mpr c9
                (first | rw [c9b0] | (simp only [i64_w, i32_w]; rw [c9b0]) | skip)
                have H' := Aside0.mk H
                clear H
                go_wp2
                repeat (go_quiet (fail); try go_wp2)
                go_meet
                case rel => exact ⟨_, ((t252 == (-1))), (by first | rfl | (simp; done) | (simp [*]; done)), H', ⟨by have := HK1.out; first | omega | exact Nat.le_refl _⟩, by repeat (first | exact Drawn0.refl _ | apply Drawn0.step)⟩
            · replace c8 := Bool.eq_false_iff.mpr c8
              subst c8
              have H1 : (epactref12_Check.j1 k1 l0 x4_1 (x4_1 == (wrap64 ((l0.length : Int) - 1))) (((rd_T40 l0 x4_1).f1) == t251) false) = some (r1, r2) := by rw [if_neg (show ¬ (false = true) by decide)] at H; exact H
              clear H
              have H := H1
              clear H1
              have H' := Aside0.mk H
              clear H
              go_wp2
              repeat (go_quiet (fail); try go_wp2)
              go_meet
              case rel => exact ⟨_, (false), (by first | rfl | (simp; done) | (simp [*]; done)), H', ⟨by have := HK1.out; first | omega | exact Nat.le_refl _⟩, by repeat (first | exact Drawn0.refl _ | apply Drawn0.step)⟩
          case rest =>
            clear HC7
            try clear c2
            try clear c2b0
            try clear p2
            try clear q2
            try clear hx2
            try clear c3
            try clear c3b0
            try clear c5
            try clear p6
            try clear c8
            try clear c9
            try clear c9b0
            try clear c9b1
            try clear hx248_0
            try clear hx248_1
            try clear hx250_0
            try clear hx250_1
            try clear p248
            try clear p250
            try clear q248
            try clear q250
            obtain ⟨kq, x9_6, rfl, HA, HJ6, ⟨mc6, rfl⟩⟩ := hcut
            cases kq with
            | zero => exact absurd HA.out (by simp [epactref12_Check.j1])
            | succ kj6 =>
              have H := HA.out
              clear HA
              simp only [epactref12_Check.j1] at H
              by_cases c10 : x4_1 > 200
              · rw [if_pos c10] at H
                have c10b0 : decide (200 < x4_1) = true := decide_eq_true c10
                clear c10
                simp only [Option.some.injEq, Prod.mk.injEq] at H
                obtain ⟨rfl, rfl⟩ := H
                go_wp2
                repeat (go_quiet (fail); try go_wp2)
                go_ret2
                exact ⟨by first | rfl | (simp; done) | (simp [*]; done), by repeat (first | exact Drawn0.refl _ | apply Drawn0.step)⟩
              · rw [if_neg c10] at H
                have c10b0 : decide (200 < x4_1) = false := decide_eq_false c10
                clear c10
                by_cases c11 : 0 ≤ x4_1
                · rw [if_pos c11] at H
                  have c11b0 : decide (0 ≤ x4_1) = true := decide_eq_true c11
                  clear c11
                  by_cases c12 : x4_1 < (l0.length : Int)
                  · rw [if_pos c12] at H
                    have c12b0 : decide (x4_1 < (l0.length : Int)) = true := decide_eq_true c12
                    clear c12
                    by_cases c13 : ((rd_T40 l0 x4_1).f0) < 0
                    · rw [if_pos c13] at H
                      have c13b0 : decide (((rd_T40 l0 x4_1).f0) < 0) = true := decide_eq_true c13
                      clear c13
                      simp only [Option.some.injEq, Prod.mk.injEq] at H
                      obtain ⟨rfl, rfl⟩ := H
                      have p254 : 0 ≤ (x4_1 : Int) := of_decide_eq_true (by first | (with_reducible assumption) | assumption)
                      have q254 : x4_1 < (l0.length : Int) := of_decide_eq_true (by first | (with_reducible assumption) | assumption)
                      obtain ⟨ad254, e254, hx254_0, hx254_1⟩ := at_T40 HR0.out x4_1 p254 q254
                      obtain rfl : ad248 = ad254 := (by injection e254)
                      replace p254 := eq_true p254
                      replace q254 := eq_true q254
                      go_wp2
                      repeat (go_quiet (fail); try go_wp2)
                      go_ret2
                      exact ⟨by first | rfl | (simp; done) | (simp [*]; done), by repeat (first | exact Drawn0.refl _ | apply Drawn0.step)⟩
                    · rw [if_neg c13] at H
                      have c13b0 : decide (((rd_T40 l0 x4_1).f0) < 0) = false := decide_eq_false c13
                      clear c13
                      have HC14 := Aside0.mk H
                      clear H
                      have p254 : 0 ≤ (x4_1 : Int) := of_decide_eq_true (by first | (with_reducible assumption) | assumption)
                      have q254 : x4_1 < (l0.length : Int) := of_decide_eq_true (by first | (with_reducible assumption) | assumption)
                      obtain ⟨ad254, e254, hx254_0, hx254_1⟩ := at_T40 HR0.out x4_1 p254 q254
                      obtain rfl : ad248 = ad254 := (by injection e254)
                      replace p254 := eq_true p254
                      replace q254 := eq_true q254
                      go_upto_region 12 with (fail)
                      repeat (go_quiet (fail); go_upto_region 12 with (fail))
                      go_cut [69] (fun v69 wc => ∃ (kq : Nat) (x69_13 : Bool), v69 = .bool x69_13 ∧ Aside0 (epactref12_Check.j2 kq l0 x4_1 (((rd_T40 l0 x4_1).f1) == t251) x69_13 = some (r1, r2)) ∧ Aside0 (kq ≤ kj6) ∧ Drawn0 w wc)
                      case first =>
                        have H := HC14.out
                        clear HC14
                        by_cases c15 : x9_6 = true
                        · subst c15
                          have H1 : (epactref12_Check.j2 kj6 l0 x4_1 (((rd_T40 l0 x4_1).f1) == t251) false) = some (r1, r2) := by rw [if_pos rfl] at H; exact H
                          clear H
                          have H := H1
                          clear H1
                          have H' := Aside0.mk H
                          clear H
                          go_wp2
                          repeat (go_quiet (fail); try go_wp2)
                          go_meet
                          case rel => exact ⟨_, (false), (by first | rfl | (simp; done) | (simp [*]; done)), H', ⟨by have := HK1.out; have := HJ6.out; first | omega | exact Nat.le_refl _⟩, by repeat (first | exact Drawn0.refl _ | apply Drawn0.step)⟩
                        · replace c15 := Bool.eq_false_iff.mpr c15
                          subst c15
                          have H1 : (if (x4_1 == (wrap64 ((l0.length : Int) - 1))) = true then (epactref12_Check.j2 kj6 l0 x4_1 (((rd_T40 l0 x4_1).f1) == t251) (!(((rd_T40 l0 x4_1).f1) == t251))) else (epactref12_Check.j2 kj6 l0 x4_1 (((rd_T40 l0 x4_1).f1) == t251) (!false))) = some (r1, r2) := by rw [if_neg (show ¬ (false = true) by decide)] at H; exact H
                          clear H
                          have H := H1
                          clear H1
                          by_cases c16 : (x4_1 == (wrap64 ((l0.length : Int) - 1))) = true
                          · rw [if_pos c16] at H
                            have c16b0 : (x4_1 == (wrap64 ((l0.length : Int) - 1))) = true := c16
                            (try (have c16b1 : decide (x4_1 = (wrap64 ((l0.length : Int) - 1))) = true := by first | (simp; done) | (simp at c16; done) | simpa using c16))
                            (try (have c16b2 : (x4_1 == (wrap64 ((l0.length : Int) - 1))) = true := by first | (simp; done) | (simp at c16; done) | simpa using c16))
                            clear c16
                            (first | rw [c16b0] | (simp only [i64_w, i32_w]; rw [c16b0]) | skip)
                            have H' := Aside0.mk H
                            clear H
                            go_wp2
                            repeat (go_quiet (fail); try go_wp2)
                            (first | go_meet | (simp only [c16b0] at *; go_meet))
                            case rel => first | exact ⟨_, (!(((rd_T40 l0 x4_1).f1) == t251)), (by first | rfl | (simp; done) | (simp [*]; done)), H', ⟨by have := HK1.out; have := HJ6.out; first | omega | exact Nat.le_refl _⟩, by repeat (first | exact Drawn0.refl _ | apply Drawn0.step)⟩ | (simp only [c16b0]; exact ⟨_, (!(((rd_T40 l0 x4_1).f1) == t251)), (by first | rfl | (simp; done) | (simp [*]; done)), H', ⟨by have := HK1.out; have := HJ6.out; first | omega | exact Nat.le_refl _⟩, by repeat (first | exact Drawn0.refl _ | apply Drawn0.step)⟩)
                          · rw [if_neg c16] at H
                            have c16b0 : (x4_1 == (wrap64 ((l0.length : Int) - 1))) = false := by first | (simp; done) | (simp at c16; done) | simpa using c16
                            (try (have c16b1 : decide (x4_1 = (wrap64 ((l0.length : Int) - 1))) = false := by first | (simp; done) | (simp at c16; done) | simpa using c16))
                            (try (have c16b2 : (x4_1 == (wrap64 ((l0.length : Int) - 1))) = false := by first | (simp; done) | (simp at c16; done) | simpa using c16))
                            (try (have c16b3 : ¬ (x4_1 = (wrap64 ((l0.length : Int) - 1))) := by first | (simp; done) | (simp at c16; done) | simpa using c16))
                            clear c16
                            (first | rw [c16b0] | (simp only [i64_w, i32_w]; rw [c16b0]) | skip)
                            have H' := Aside0.mk H
                            clear H
                            go_wp2
                            repeat (go_quiet (fail); try go_wp2)
                            (first | go_meet | (simp only [c16b0] at *; go_meet))
                            case rel => first | exact ⟨_, (!false), (by first | rfl | (simp; done) | (simp [*]; done)), H', ⟨by have := HK1.out; have := HJ6.out; first | omega | exact Nat.le_refl _⟩, by repeat (first | exact Drawn0.refl _ | apply Drawn0.step)⟩ | (simp only [c16b0]; exact ⟨_, (!false), (by first | rfl | (simp; done) | (simp [*]; done)), H', ⟨by have := HK1.out; have := HJ6.out; first | omega | exact Nat.le_refl _⟩, by repeat (first | exact Drawn0.refl _ | apply Drawn0.step)⟩)
                      case rest =>
                        clear HC14
                        try clear c1
                        try clear c2
                        try clear c2b0
                        try clear p2
                        try clear q2
                        try clear hx2
                        try clear c3
                        try clear c3b0
                        try clear c5
                        try clear c6
                        try clear p6
                        try clear c8
                        try clear c9
                        try clear c9b0
                        try clear c9b1
                        try clear c10
                        try clear c10b0
                        try clear c11
                        try clear c11b0
                        try clear c12
                        try clear c12b0
                        try clear c13
                        try clear c13b0
                        try clear c15
                        try clear c16
                        try clear c16b0
                        try clear c16b1
                        try clear c16b2
                        try clear hx248_0
                        try clear hx248_1
                        try clear hx250_0
                        try clear hx250_1
                        try clear hx254_0
                        try clear hx254_1
                        try clear p2
                        try clear p248
                        try clear p250
                        try clear p254
                        try clear p6
                        try clear q2
                        try clear q248
                        try clear q250
                        try clear q254
                        obtain ⟨kq, x69_13, rfl, HA, HJ13, ⟨mc13, rfl⟩⟩ := hcut
                        cases kq with
                        | zero => exact absurd HA.out (by simp [epactref12_Check.j2])
                        | succ kj13 =>
                          have H := HA.out
                          clear HA
                          simp only [epactref12_Check.j2] at H
                          by_cases c17 : x69_13 = true
                          · subst c17
                            have H1 : (some (x4_1, 6)) = some (r1, r2) := by rw [if_pos rfl] at H; exact H
                            clear H
                            have H := H1
                            clear H1
                            simp only [Option.some.injEq, Prod.mk.injEq] at H
                            obtain ⟨rfl, rfl⟩ := H
                            go_wp2
                            repeat (go_quiet (fail); try go_wp2)
                            go_ret2
                            exact ⟨by first | rfl | (simp; done) | (simp [*]; done), by repeat (first | exact Drawn0.refl _ | apply Drawn0.step)⟩
                          · replace c17 := Bool.eq_false_iff.mpr c17
                            subst c17
                            have H1 : (if x4_1 > 0 then (if (((rd_T40 l0 x4_1).f1) == t251) = true then (if 0 ≤ x4_1 then (if x4_1 < (l0.length : Int) then (if 0 ≤ (wrap64 (x4_1 - 1)) then (if (wrap64 (x4_1 - 1)) < (l0.length : Int) then (if ((rd_T40 l0 x4_1).f0) < ((rd_T40 l0 (wrap64 (x4_1 - 1))).f0) then (some (x4_1, 7)) else (epactref12_Check.l0 kj13 l0 (wrap64 (x4_1 + 1)))) else (none)) else (none)) else (none)) else (none)) else (if 0 ≤ x4_1 then (if x4_1 < (l0.length : Int) then (if 0 ≤ (wrap64 (x4_1 - 1)) then (if (wrap64 (x4_1 - 1)) < (l0.length : Int) then (if (wrap64 (((rd_T40 l0 x4_1).f0) - ((rd_T40 l0 (wrap64 (x4_1 - 1))).f0))) < 2419199 then (some (x4_1, 7)) else (if ((rd_T40 l0 x4_1).f0) < ((rd_T40 l0 (wrap64 (x4_1 - 1))).f0) then (some (x4_1, 7)) else (epactref12_Check.l0 kj13 l0 (wrap64 (x4_1 + 1))))) else (none)) else (none)) else (none)) else (none))) else (epactref12_Check.l0 kj13 l0 (wrap64 (x4_1 + 1)))) = some (r1, r2) := by rw [if_neg (show ¬ (false = true) by decide)] at H; exact H
                            clear H
                            have H := H1
                            clear H1
                            by_cases c18 : x4_1 > 0
                            · rw [if_pos c18] at H
                              have c18b0 : decide (0 < x4_1) = true := decide_eq_true c18
                              clear c18
                              by_cases c19 : (((rd_T40 l0 x4_1).f1) == t251) = true
                              · rw [if_pos c19] at H
                                have c19b0 : (((rd_T40 l0 x4_1).f1) == t251) = true := c19
                                (try (have c19b1 : decide (((rd_T40 l0 x4_1).f1) = t251) = true := by first | (simp; done) | (simp at c19; done) | simpa using c19))
                                (try (have c19b2 : (((rd_T40 l0 x4_1).f1) == t251) = true := by first | (simp; done) | (simp at c19; done) | simpa using c19))
                                clear c19
                                by_cases c20 : 0 ≤ x4_1
                                · rw [if_pos c20] at H
                                  have c20b0 : decide (0 ≤ x4_1) = true := decide_eq_true c20
                                  clear c20
                                  by_cases c21 : x4_1 < (l0.length : Int)
                                  · rw [if_pos c21] at H
                                    have c21b0 : decide (x4_1 < (l0.length : Int)) = true := decide_eq_true c21
                                    clear c21
                                    obtain ⟨ji22, hji22⟩ : ∃ j_ : Int, (wrap64 (x4_1 - 1)) = j_ := ⟨_, rfl⟩
                                    replace H : (if 0 ≤ (ji22) then (if (ji22) < (l0.length : Int) then (if ((rd_T40 l0 x4_1).f0) < ((rd_T40 l0 (ji22)).f0) then (some (x4_1, 7)) else (epactref12_Check.l0 kj13 l0 (wrap64 (x4_1 + 1)))) else (none)) else (none)) = some (r1, r2) := by first | (rw [hji22] at H; exact H) | (simp only [hji22] at H ⊢; exact H)
                                    have hji22w : (IntKind.i64.wrap (x4_1 - 1)) = ji22 := (i64_w _).trans hji22
                                    by_cases c23 : 0 ≤ (ji22)
                                    · rw [if_pos c23] at H
                                      have c23b0 : decide (0 ≤ (ji22)) = true := decide_eq_true c23
                                      clear c23
                                      by_cases c24 : (ji22) < (l0.length : Int)
                                      · rw [if_pos c24] at H
                                        have c24b0 : decide ((ji22) < (l0.length : Int)) = true := decide_eq_true c24
                                        clear c24
                                        by_cases c25 : ((rd_T40 l0 x4_1).f0) < ((rd_T40 l0 (ji22)).f0)
                                        · rw [if_pos c25] at H
                                          have c25b0 : decide (((rd_T40 l0 x4_1).f0) < ((rd_T40 l0 (ji22)).f0)) = true := decide_eq_true c25
                                          clear c25
                                          simp only [Option.some.injEq, Prod.mk.injEq] at H
                                          obtain ⟨rfl, rfl⟩ := H
                                          have p255 : 0 ≤ (x4_1 : Int) := of_decide_eq_true (by first | (with_reducible assumption) | assumption)
                                          have q255 : x4_1 < (l0.length : Int) := of_decide_eq_true (by first | (with_reducible assumption) | assumption)
                                          obtain ⟨ad255, e255, hx255_0, hx255_1⟩ := at_T40 HR0.out x4_1 p255 q255
                                          obtain rfl : ad248 = ad255 := (by injection e255)
                                          replace p255 := eq_true p255
                                          replace q255 := eq_true q255
                                          have p256 : 0 ≤ ((ji22) : Int) := of_decide_eq_true (by first | (with_reducible assumption) | assumption)
                                          have q256 : (ji22) < (l0.length : Int) := of_decide_eq_true (by first | (with_reducible assumption) | assumption)
                                          obtain ⟨ad256, e256, hx256_0, hx256_1⟩ := at_T40 HR0.out (ji22) p256 q256
                                          obtain rfl : ad248 = ad256 := (by injection e256)
                                          replace p256 := eq_true p256
                                          replace q256 := eq_true q256
                                          go_wp2
                                          repeat (go_quiet (fail); try go_wp2)
                                          go_ret2
                                          exact ⟨by first | rfl | (simp; done) | (simp only [← hji22] <;> (first | rfl | simp)) | (simp [*]; done), by repeat (first | exact Drawn0.refl _ | apply Drawn0.step)⟩
                                        · rw [if_neg c25] at H
                                          have c25b0 : decide (((rd_T40 l0 x4_1).f0) < ((rd_T40 l0 (ji22)).f0)) = false := decide_eq_false c25
                                          clear c25
                                          have H' := Aside0.mk H
                                          clear H
                                          have p255 : 0 ≤ (x4_1 : Int) := of_decide_eq_true (by first | (with_reducible assumption) | assumption)
                                          have q255 : x4_1 < (l0.length : Int) := of_decide_eq_true (by first | (with_reducible assumption) | assumption)
                                          obtain ⟨ad255, e255, hx255_0, hx255_1⟩ := at_T40 HR0.out x4_1 p255 q255
                                          obtain rfl : ad248 = ad255 := (by injection e255)
                                          replace p255 := eq_true p255
                                          replace q255 := eq_true q255
                                          have p256 : 0 ≤ ((ji22) : Int) := of_decide_eq_true (by first | (with_reducible assumption) | assumption)
                                          have q256 : (ji22) < (l0.length : Int) := of_decide_eq_true (by first | (with_reducible assumption) | assumption)
                                          obtain ⟨ad256, e256, hx256_0, hx256_1⟩ := at_T40 HR0.out (ji22) p256 q256
                                          obtain rfl : ad248 = ad256 := (by injection e256)
                                          replace p256 := eq_true p256
                                          replace q256 := eq_true q256
                                          go_wp2
                                          repeat (go_quiet (fail); try go_wp2)
                                          go_roundg kj13
                                          case measure => have := HK1.out; have := HJ6.out; have := HJ13.out; omega
                                          case rel => exact ⟨(wrap64 (x4_1 + 1)), (by first | rfl | (simp; done) | (simp [*]; done)), H', ⟨by have := HK1.out; have := HJ6.out; have := HJ13.out; omega⟩, by repeat (first | exact Drawn0.refl _ | apply Drawn0.step)⟩
                                      · rw [if_neg c24] at H
                                        exact absurd H (by simp)
                                    · rw [if_neg c23] at H
                                      exact absurd H (by simp)
                                  · rw [if_neg c21] at H
                                    exact absurd H (by simp)
                                · rw [if_neg c20] at H
                                  exact absurd H (by simp)
                              · rw [if_neg c19] at H
                                have c19b0 : (((rd_T40 l0 x4_1).f1) == t251) = false := by first | (simp; done) | (simp at c19; done) | simpa using c19
                                (try (have c19b1 : decide (((rd_T40 l0 x4_1).f1) = t251) = false := by first | (simp; done) | (simp at c19; done) | simpa using c19))
                                (try (have c19b2 : (((rd_T40 l0 x4_1).f1) == t251) = false := by first | (simp; done) | (simp at c19; done) | simpa using c19))
                                (try (have c19b3 : ¬ (((rd_T40 l0 x4_1).f1) = t251) := by first | (simp; done) | (simp at c19; done) | simpa using c19))
                                clear c19
                                by_cases c26 : 0 ≤ x4_1
                                · rw [if_pos c26] at H
                                  have c26b0 : decide (0 ≤ x4_1) = true := decide_eq_true c26
                                  clear c26
                                  by_cases c27 : x4_1 < (l0.length : Int)
                                  · rw [if_pos c27] at H
                                    have c27b0 : decide (x4_1 < (l0.length : Int)) = true := decide_eq_true c27
                                    clear c27
                                    obtain ⟨ji28, hji28⟩ : ∃ j_ : Int, (wrap64 (x4_1 - 1)) = j_ := ⟨_, rfl⟩
                                    replace H : (if 0 ≤ (ji28) then (if (ji28) < (l0.length : Int) then (if (wrap64 (((rd_T40 l0 x4_1).f0) - ((rd_T40 l0 (ji28)).f0))) < 2419199 then (some (x4_1, 7)) else (if ((rd_T40 l0 x4_1).f0) < ((rd_T40 l0 (ji28)).f0) then (some (x4_1, 7)) else (epactref12_Check.l0 kj13 l0 (wrap64 (x4_1 + 1))))) else (none)) else (none)) = some (r1, r2) := by first | (rw [hji28] at H; exact H) | (simp only [hji28] at H ⊢; exact H)
                                    have hji28w : (IntKind.i64.wrap (x4_1 - 1)) = ji28 := (i64_w _).trans hji28
                                    by_cases c29 : 0 ≤ (ji28)
                                    · rw [if_pos c29] at H
                                      have c29b0 : decide (0 ≤ (ji28)) = true := decide_eq_true c29
                                      clear c29
                                      by_cases c30 : (ji28) < (l0.length : Int)
                                      · rw [if_pos c30] at H
                                        have c30b0 : decide ((ji28) < (l0.length : Int)) = true := decide_eq_true c30
                                        clear c30
                                        by_cases c31 : (wrap64 (((rd_T40 l0 x4_1).f0) - ((rd_T40 l0 (ji28)).f0))) < 2419199
                                        · rw [if_pos c31] at H
                                          have c31b0 : decide ((wrap64 (((rd_T40 l0 x4_1).f0) - ((rd_T40 l0 (ji28)).f0))) < 2419199) = true := decide_eq_true c31
                                          clear c31
                                          simp only [Option.some.injEq, Prod.mk.injEq] at H
                                          obtain ⟨rfl, rfl⟩ := H
                                          have p257 : 0 ≤ (x4_1 : Int) := of_decide_eq_true (by first | (with_reducible assumption) | assumption)
                                          have q257 : x4_1 < (l0.length : Int) := of_decide_eq_true (by first | (with_reducible assumption) | assumption)
                                          obtain ⟨ad257, e257, hx257_0, hx257_1⟩ := at_T40 HR0.out x4_1 p257 q257
                                          obtain rfl : ad248 = ad257 := (by injection e257)
                                          replace p257 := eq_true p257
                                          replace q257 := eq_true q257
                                          have p258 : 0 ≤ ((ji28) : Int) := of_decide_eq_true (by first | (with_reducible assumption) | assumption)
                                          have q258 : (ji28) < (l0.length : Int) := of_decide_eq_true (by first | (with_reducible assumption) | assumption)
                                          obtain ⟨ad258, e258, hx258_0, hx258_1⟩ := at_T40 HR0.out (ji28) p258 q258
                                          obtain rfl : ad248 = ad258 := (by injection e258)
                                          replace p258 := eq_true p258
                                          replace q258 := eq_true q258
                                          go_wp2
                                          repeat (go_quiet (fail); try go_wp2)
                                          go_ret2
                                          exact ⟨by first | rfl | (simp; done) | (simp only [← hji28] <;> (first | rfl | simp)) | (simp [*]; done), by repeat (first | exact Drawn0.refl _ | apply Drawn0.step)⟩
                                        · rw [if_neg c31] at H
                                          have c31b0 : decide ((wrap64 (((rd_T40 l0 x4_1).f0) - ((rd_T40 l0 (ji28)).f0))) < 2419199) = false := decide_eq_false c31
                                          clear c31
                                          by_cases c32 : ((rd_T40 l0 x4_1).f0) < ((rd_T40 l0 (ji28)).f0)
                                          · rw [if_pos c32] at H
                                            have c32b0 : decide (((rd_T40 l0 x4_1).f0) < ((rd_T40 l0 (ji28)).f0)) = true := decide_eq_true c32
                                            clear c32
                                            simp only [Option.some.injEq, Prod.mk.injEq] at H
                                            obtain ⟨rfl, rfl⟩ := H
                                            have p257 : 0 ≤ (x4_1 : Int) := of_decide_eq_true (by first | (with_reducible assumption) | assumption)
                                            have q257 : x4_1 < (l0.length : Int) := of_decide_eq_true (by first | (with_reducible assumption) | assumption)
                                            obtain ⟨ad257, e257, hx257_0, hx257_1⟩ := at_T40 HR0.out x4_1 p257 q257
                                            obtain rfl : ad248 = ad257 := (by injection e257)
                                            replace p257 := eq_true p257
                                            replace q257 := eq_true q257
                                            have p258 : 0 ≤ ((ji28) : Int) := of_decide_eq_true (by first | (with_reducible assumption) | assumption)
                                            have q258 : (ji28) < (l0.length : Int) := of_decide_eq_true (by first | (with_reducible assumption) | assumption)
                                            obtain ⟨ad258, e258, hx258_0, hx258_1⟩ := at_T40 HR0.out (ji28) p258 q258
                                            obtain rfl : ad248 = ad258 := (by injection e258)
                                            replace p258 := eq_true p258
                                            replace q258 := eq_true q258
                                            have p259 : 0 ≤ (x4_1 : Int) := of_decide_eq_true (by first | (with_reducible assumption) | assumption)
                                            have q259 : x4_1 < (l0.length : Int) := of_decide_eq_true (by first | (with_reducible assumption) | assumption)
                                            obtain ⟨ad259, e259, hx259_0, hx259_1⟩ := at_T40 HR0.out x4_1 p259 q259
                                            obtain rfl : ad248 = ad259 := (by injection e259)
                                            replace p259 := eq_true p259
                                            replace q259 := eq_true q259
                                            have p260 : 0 ≤ ((ji28) : Int) := of_decide_eq_true (by first | (with_reducible assumption) | assumption)
                                            have q260 : (ji28) < (l0.length : Int) := of_decide_eq_true (by first | (with_reducible assumption) | assumption)
                                            obtain ⟨ad260, e260, hx260_0, hx260_1⟩ := at_T40 HR0.out (ji28) p260 q260
                                            obtain rfl : ad248 = ad260 := (by injection e260)
                                            replace p260 := eq_true p260
                                            replace q260 := eq_true q260
                                            go_wp2
                                            repeat (go_quiet (fail); try go_wp2)
                                            go_ret2
                                            exact ⟨by first | rfl | (simp; done) | (simp only [← hji28] <;> (first | rfl | simp)) | (simp [*]; done), by repeat (first | exact Drawn0.refl _ | apply Drawn0.step)⟩
                                          · rw [if_neg c32] at H
                                            have c32b0 : decide (((rd_T40 l0 x4_1).f0) < ((rd_T40 l0 (ji28)).f0)) = false := decide_eq_false c32
                                            clear c32
                                            have H' := Aside0.mk H
                                            clear H
                                            have p257 : 0 ≤ (x4_1 : Int) := of_decide_eq_true (by first | (with_reducible assumption) | assumption)
                                            have q257 : x4_1 < (l0.length : Int) := of_decide_eq_true (by first | (with_reducible assumption) | assumption)
                                            obtain ⟨ad257, e257, hx257_0, hx257_1⟩ := at_T40 HR0.out x4_1 p257 q257
                                            obtain rfl : ad248 = ad257 := (by injection e257)
                                            replace p257 := eq_true p257
                                            replace q257 := eq_true q257
                                            have p258 : 0 ≤ ((ji28) : Int) := of_decide_eq_true (by first | (with_reducible assumption) | assumption)
                                            have q258 : (ji28) < (l0.length : Int) := of_decide_eq_true (by first | (with_reducible assumption) | assumption)
                                            obtain ⟨ad258, e258, hx258_0, hx258_1⟩ := at_T40 HR0.out (ji28) p258 q258
                                            obtain rfl : ad248 = ad258 := (by injection e258)
                                            replace p258 := eq_true p258
                                            replace q258 := eq_true q258
                                            have p259 : 0 ≤ (x4_1 : Int) := of_decide_eq_true (by first | (with_reducible assumption) | assumption)
                                            have q259 : x4_1 < (l0.length : Int) := of_decide_eq_true (by first | (with_reducible assumption) | assumption)
                                            obtain ⟨ad259, e259, hx259_0, hx259_1⟩ := at_T40 HR0.out x4_1 p259 q259
                                            obtain rfl : ad248 = ad259 := (by injection e259)
                                            replace p259 := eq_true p259
                                            replace q259 := eq_true q259
                                            have p260 : 0 ≤ ((ji28) : Int) := of_decide_eq_true (by first | (with_reducible assumption) | assumption)
                                            have q260 : (ji28) < (l0.length : Int) := of_decide_eq_true (by first | (with_reducible assumption) | assumption)
                                            obtain ⟨ad260, e260, hx260_0, hx260_1⟩ := at_T40 HR0.out (ji28) p260 q260
                                            obtain rfl : ad248 = ad260 := (by injection e260)
                                            replace p260 := eq_true p260
                                            replace q260 := eq_true q260
                                            go_wp2
                                            repeat (go_quiet (fail); try go_wp2)
                                            go_roundg kj13
                                            case measure => have := HK1.out; have := HJ6.out; have := HJ13.out; omega
                                            case rel => exact ⟨(wrap64 (x4_1 + 1)), (by first | rfl | (simp; done) | (simp [*]; done)), H', ⟨by have := HK1.out; have := HJ6.out; have := HJ13.out; omega⟩, by repeat (first | exact Drawn0.refl _ | apply Drawn0.step)⟩
                                      · rw [if_neg c30] at H
                                        exact absurd H (by simp)
                                    · rw [if_neg c29] at H
                                      exact absurd H (by simp)
                                  · rw [if_neg c27] at H
                                    exact absurd H (by simp)
                                · rw [if_neg c26] at H
                                  exact absurd H (by simp)
                            · rw [if_neg c18] at H
                              have c18b0 : decide (0 < x4_1) = false := decide_eq_false c18
                              clear c18
                              have H' := Aside0.mk H
                              clear H
                              go_wp2
                              repeat (go_quiet (fail); try go_wp2)
                              go_roundg kj13
                              case measure => have := HK1.out; have := HJ6.out; have := HJ13.out; omega
                              case rel => exact ⟨(wrap64 (x4_1 + 1)), (by first | rfl | (simp; done) | (simp [*]; done)), H', ⟨by have := HK1.out; have := HJ6.out; have := HJ13.out; omega⟩, by repeat (first | exact Drawn0.refl _ | apply Drawn0.step)⟩
                  · rw [if_neg c12] at H
                    exact absurd H (by simp)
                · rw [if_neg c11] at H
                  exact absurd H (by simp)
        · rw [if_neg c3] at H
          exact absurd H (by simp)
      · rw [if_neg c2] at H
        have c2b0 : decide (x4_1 < (l0.length : Int)) = false := decide_eq_false c2
        clear c2
        simp only [Option.some.injEq, Prod.mk.injEq] at H
        obtain ⟨rfl, rfl⟩ := H
        go_wp2
        repeat (go_quiet (fail); try go_wp2)
        go_ret2
        exact ⟨by first | rfl | (simp; done) | (simp [*]; done), by repeat (first | exact Drawn0.refl _ | apply Drawn0.step)⟩

/-! ### epactref12_Right: function 49 -/
def epactref12_Right.f (k : Nat) (l0 : List (S40)) : Option (Bool) := (epactref12_Check.f k l0).bind fun bt261 => (some (bt261.2 == 0))
theorem epactref12_Right.mono : ∀ a0 k, LeO (epactref12_Right.f k a0) (epactref12_Right.f (k + 1) a0) := by
  intro a0 k
  unfold epactref12_Right.f
  repeat' first
      | (with_reducible exact epactref12_Check.mono _ _)
      | (with_reducible exact LeO.refl _)
      | (with_reducible exact LeO.none _)
      | (with_reducible refine LeO.ite ?_ ?_)
      | (with_reducible refine LeO.bind ?_ (fun _ => ?_))
      | exact epactref12_Check.mono _ _
      | exact LeO.none _
      | refine LeO.ite ?_ ?_
      | refine LeO.bind ?_ (fun _ => ?_)
set_option maxHeartbeats 8000000 in
set_option maxRecDepth 100000 in
theorem epactref12_Right.calls (k : Nat) (A0 : Option Addr) (c0 : Nat) (l0 : List (S40)) (r : Bool) (w : World) (hr0 : Kd.C k40 w A0 l0.length l0) (hc0 : l0.length ≤ c0) (h : epactref12_Right.f k l0 = some r) :
    Calls Try.prog 49 #[.slice A0 l0.length c0] w fun e w' => e = .returned (.bool r) ∧ Drawn0 w w' := by
  have HR0 := Aside0.mk hr0
  have HC0 := Aside0.mk hc0
  clear hr0 hc0
  have H : ((epactref12_Check.f k l0).bind fun bt261 => (some (bt261.2 == 0))) = some r := h
  clear h
  replace H := Option.bind_eq_some_iff.mp H
  obtain ⟨⟨t261, t262⟩, A20, H⟩ := H
  replace H : (some (t262 == 0)) = some r := H
  have A2 := Aside0.mk A20
  clear A20
  obtain rfl := Option.some.inj H
  go_enter Try.func49, Try.ntmps49
  go_wp2_with (first | ((with_reducible refine gate_callee (f := 56) rfl ?_); refine goesL_ (some 7) rfl rfl Try.func56 (by kernel_rfl) rfl #[.slice A0 l0.length c0] rfl (by (try simp only [List.map_toArray, List.map_cons, List.map_nil]); first | done | rfl | (simp only [List.length_drop, List.length_take]; rfl)) ?_; (with_reducible refine (epactref12_Check.calls k _ _ l0 t261 t262 _ ?side1 ?side2 A2.out).mono ?_); (case side1 => repeat (first | exact HR0.out | (with_reducible refine Kd.C_alloc ?_ _) | (with_reducible refine Kd.C_drewN ?_ _) | (with_reducible refine Kd.C_drew ?_))); (case side2 => exact HC0.out); rintro e w' ⟨rfl, ⟨nd, rfl⟩⟩; refine ⟨_, rfl, ?_⟩))
  go_ret
  exact ⟨by first | rfl | (simp; done) | (simp [*]; done), by repeat (first | exact Drawn0.refl _ | apply Drawn0.step)⟩

/-! ### epactref12_leaps: function 57 -/
def epactref12_leaps.f (l0 : List (S40)) : Option (Int) := if (l0.length : Int) > 0 then (if 0 ≤ (wrap64 ((l0.length : Int) - 1)) then (if (wrap64 ((l0.length : Int) - 1)) < (l0.length : Int) then ((epactref12_ahead.f l0 (wrap64 ((l0.length : Int) - 1))).bind fun t264 => (if ((rd_T40 l0 (wrap64 ((l0.length : Int) - 1))).f1) = t264 then (some (wrap64 ((l0.length : Int) - 1))) else (some (l0.length : Int)))) else (none)) else (none)) else (some (l0.length : Int))
set_option maxHeartbeats 8000000 in
set_option maxRecDepth 100000 in
theorem epactref12_leaps.calls (A0 : Option Addr) (c0 : Nat) (l0 : List (S40)) (r : Int) (w : World) (hr0 : Kd.C k40 w A0 l0.length l0) (hc0 : l0.length ≤ c0) (h : epactref12_leaps.f l0 = some r) :
    Calls Try.prog 57 #[.slice A0 l0.length c0] w fun e w' => e = .returned (.int .i64 r) ∧ Drawn0 w w' := by
  have HR0 := Aside0.mk hr0
  have HC0 := Aside0.mk hc0
  clear hr0 hc0
  have H : (if (l0.length : Int) > 0 then (if 0 ≤ (wrap64 ((l0.length : Int) - 1)) then (if (wrap64 ((l0.length : Int) - 1)) < (l0.length : Int) then ((epactref12_ahead.f l0 (wrap64 ((l0.length : Int) - 1))).bind fun t264 => (if ((rd_T40 l0 (wrap64 ((l0.length : Int) - 1))).f1) = t264 then (some (wrap64 ((l0.length : Int) - 1))) else (some (l0.length : Int)))) else (none)) else (none)) else (some (l0.length : Int))) = some r := h
  clear h
  by_cases c2 : (l0.length : Int) > 0
  · rw [if_pos c2] at H
    have c2b0 : decide (0 < (l0.length : Int)) = true := decide_eq_true c2
    have c2b1 : decide (0 < l0.length) = true := decide_eq_true (by omega)
    clear c2
    obtain ⟨ji3, hji3⟩ : ∃ j_ : Int, (wrap64 ((l0.length : Int) - 1)) = j_ := ⟨_, rfl⟩
    replace H : (if 0 ≤ (ji3) then (if (ji3) < (l0.length : Int) then ((epactref12_ahead.f l0 (ji3)).bind fun t264 => (if ((rd_T40 l0 (ji3)).f1) = t264 then (some ji3) else (some (l0.length : Int)))) else (none)) else (none)) = some r := by first | (rw [hji3] at H; exact H) | (simp only [hji3] at H ⊢; exact H)
    have hji3w : (IntKind.i64.wrap ((l0.length : Int) - 1)) = ji3 := (i64_w _).trans hji3
    by_cases c4 : 0 ≤ (ji3)
    · rw [if_pos c4] at H
      have c4b0 : decide (0 ≤ (ji3)) = true := decide_eq_true c4
      clear c4
      by_cases c5 : (ji3) < (l0.length : Int)
      · rw [if_pos c5] at H
        have c5b0 : decide ((ji3) < (l0.length : Int)) = true := decide_eq_true c5
        clear c5
        replace H := Option.bind_eq_some_iff.mp H
        obtain ⟨t264, A60, H⟩ := H
        replace H : (if ((rd_T40 l0 (ji3)).f1) = t264 then (some ji3) else (some (l0.length : Int))) = some r := H
        have A6 := Aside0.mk A60
        clear A60
        by_cases c7 : ((rd_T40 l0 (ji3)).f1) = t264
        · rw [if_pos c7] at H
          have c7b0 : (((rd_T40 l0 (ji3)).f1) == t264) = true := beq_iff_eq.mpr c7
          have c7b1 : (((rd_T40 l0 (ji3)).f1) != t264) = false := bne_eq_false_iff_eq.mpr c7
          clear c7
          obtain rfl := Option.some.inj H
          have p263 : 0 ≤ ((ji3) : Int) := of_decide_eq_true (by first | (with_reducible assumption) | assumption)
          have q263 : (ji3) < (l0.length : Int) := of_decide_eq_true (by first | (with_reducible assumption) | assumption)
          obtain ⟨ad263, e263, hx263_0, hx263_1⟩ := at_T40 HR0.out (ji3) p263 q263
          cases e263
          replace p263 := eq_true p263
          replace q263 := eq_true q263
          go_enter Try.func57, Try.ntmps57
          go_wp2_with (first | (go_at_call 60; (with_reducible refine (epactref12_ahead.calls _ _ l0 ji3 t264 _ ?side1 ?side2 A6.out).mono ?_); (case side1 => repeat (first | exact HR0.out | (with_reducible refine Kd.C_alloc ?_ _) | (with_reducible refine Kd.C_drewN ?_ _) | (with_reducible refine Kd.C_drew ?_))); (case side2 => exact HC0.out); rintro e w' ⟨rfl, ⟨nd, rfl⟩⟩; (try first | exact ⟨rfl, _, World.drewN_drewN _ _ _⟩ | exact ⟨rfl, _, Eq.trans (World.drewN_drewN _ _ _) (congrArg (World.drewN _) (Nat.add_assoc _ _ _))⟩)))
          repeat (go_quiet (first | (go_at_call 60; (with_reducible refine (epactref12_ahead.calls _ _ l0 ji3 t264 _ ?side1 ?side2 A6.out).mono ?_); (case side1 => repeat (first | exact HR0.out | (with_reducible refine Kd.C_alloc ?_ _) | (with_reducible refine Kd.C_drewN ?_ _) | (with_reducible refine Kd.C_drew ?_))); (case side2 => exact HC0.out); rintro e w' ⟨rfl, ⟨nd, rfl⟩⟩; (try first | exact ⟨rfl, _, World.drewN_drewN _ _ _⟩ | exact ⟨rfl, _, Eq.trans (World.drewN_drewN _ _ _) (congrArg (World.drewN _) (Nat.add_assoc _ _ _))⟩))); try go_wp2_with (first | (go_at_call 60; (with_reducible refine (epactref12_ahead.calls _ _ l0 ji3 t264 _ ?side1 ?side2 A6.out).mono ?_); (case side1 => repeat (first | exact HR0.out | (with_reducible refine Kd.C_alloc ?_ _) | (with_reducible refine Kd.C_drewN ?_ _) | (with_reducible refine Kd.C_drew ?_))); (case side2 => exact HC0.out); rintro e w' ⟨rfl, ⟨nd, rfl⟩⟩; (try first | exact ⟨rfl, _, World.drewN_drewN _ _ _⟩ | exact ⟨rfl, _, Eq.trans (World.drewN_drewN _ _ _) (congrArg (World.drewN _) (Nat.add_assoc _ _ _))⟩))))
          go_ret
          exact ⟨by first | rfl | (simp; done) | (simp only [← hji3] <;> (first | rfl | simp)) | (simp [*]; done), by repeat (first | exact Drawn0.refl _ | apply Drawn0.step)⟩
        · rw [if_neg c7] at H
          have c7b0 : (((rd_T40 l0 (ji3)).f1) == t264) = false := beq_eq_false_iff_ne.mpr c7
          have c7b1 : (((rd_T40 l0 (ji3)).f1) != t264) = true := bne_iff_ne.mpr c7
          obtain rfl := Option.some.inj H
          have p263 : 0 ≤ ((ji3) : Int) := of_decide_eq_true (by first | (with_reducible assumption) | assumption)
          have q263 : (ji3) < (l0.length : Int) := of_decide_eq_true (by first | (with_reducible assumption) | assumption)
          obtain ⟨ad263, e263, hx263_0, hx263_1⟩ := at_T40 HR0.out (ji3) p263 q263
          cases e263
          replace p263 := eq_true p263
          replace q263 := eq_true q263
          go_enter Try.func57, Try.ntmps57
          go_wp2_with (first | (go_at_call 60; (with_reducible refine (epactref12_ahead.calls _ _ l0 ji3 t264 _ ?side1 ?side2 A6.out).mono ?_); (case side1 => repeat (first | exact HR0.out | (with_reducible refine Kd.C_alloc ?_ _) | (with_reducible refine Kd.C_drewN ?_ _) | (with_reducible refine Kd.C_drew ?_))); (case side2 => exact HC0.out); rintro e w' ⟨rfl, ⟨nd, rfl⟩⟩; (try first | exact ⟨rfl, _, World.drewN_drewN _ _ _⟩ | exact ⟨rfl, _, Eq.trans (World.drewN_drewN _ _ _) (congrArg (World.drewN _) (Nat.add_assoc _ _ _))⟩)))
          repeat (go_quiet (first | (go_at_call 60; (with_reducible refine (epactref12_ahead.calls _ _ l0 ji3 t264 _ ?side1 ?side2 A6.out).mono ?_); (case side1 => repeat (first | exact HR0.out | (with_reducible refine Kd.C_alloc ?_ _) | (with_reducible refine Kd.C_drewN ?_ _) | (with_reducible refine Kd.C_drew ?_))); (case side2 => exact HC0.out); rintro e w' ⟨rfl, ⟨nd, rfl⟩⟩; (try first | exact ⟨rfl, _, World.drewN_drewN _ _ _⟩ | exact ⟨rfl, _, Eq.trans (World.drewN_drewN _ _ _) (congrArg (World.drewN _) (Nat.add_assoc _ _ _))⟩))); try go_wp2_with (first | (go_at_call 60; (with_reducible refine (epactref12_ahead.calls _ _ l0 ji3 t264 _ ?side1 ?side2 A6.out).mono ?_); (case side1 => repeat (first | exact HR0.out | (with_reducible refine Kd.C_alloc ?_ _) | (with_reducible refine Kd.C_drewN ?_ _) | (with_reducible refine Kd.C_drew ?_))); (case side2 => exact HC0.out); rintro e w' ⟨rfl, ⟨nd, rfl⟩⟩; (try first | exact ⟨rfl, _, World.drewN_drewN _ _ _⟩ | exact ⟨rfl, _, Eq.trans (World.drewN_drewN _ _ _) (congrArg (World.drewN _) (Nat.add_assoc _ _ _))⟩))))
          go_ret
          exact ⟨by first | rfl | (simp; done) | (simp only [← hji3] <;> (first | rfl | simp)) | (simp [*]; done), by repeat (first | exact Drawn0.refl _ | apply Drawn0.step)⟩
      · rw [if_neg c5] at H
        exact absurd H (by simp)
    · rw [if_neg c4] at H
      exact absurd H (by simp)
  · rw [if_neg c2] at H
    have c2b0 : decide (0 < (l0.length : Int)) = false := decide_eq_false c2
    have c2b1 : decide (0 < l0.length) = false := decide_eq_false (by omega)
    clear c2
    obtain rfl := Option.some.inj H
    go_enter Try.func57, Try.ntmps57
    go_wp2
    repeat (go_quiet (fail); try go_wp2)
    go_ret
    exact ⟨by first | rfl | (simp; done) | (simp [*]; done), by repeat (first | exact Drawn0.refl _ | apply Drawn0.step)⟩

/-! ### epactref03_Leap: function 73 -/
def epactref03_Leap.f (a0 : Int) : Option (Bool) := if (Int.tmod a0 4) = 0 then (if (Int.tmod a0 100) = 0 then (some ((Int.tmod a0 400) == 0)) else (some true)) else (some ((Int.tmod a0 400) == 0))
set_option maxHeartbeats 8000000 in
set_option maxRecDepth 100000 in
theorem epactref03_Leap.calls (a0 : Int) (r : Bool) (w : World) (h : epactref03_Leap.f a0 = some r) :
    Calls Try.prog 73 #[.int .i64 a0] w fun e w' => e = .returned (.bool r) ∧ Drawn0 w w' := by
  have H : (if (Int.tmod a0 4) = 0 then (if (Int.tmod a0 100) = 0 then (some ((Int.tmod a0 400) == 0)) else (some true)) else (some ((Int.tmod a0 400) == 0))) = some r := h
  clear h
  by_cases c2 : (Int.tmod a0 4) = 0
  · rw [if_pos c2] at H
    have c2b0 : ((Int.tmod a0 4) == 0) = true := beq_iff_eq.mpr c2
    have c2b1 : ((Int.tmod a0 4) != 0) = false := bne_eq_false_iff_eq.mpr c2
    clear c2
    by_cases c3 : (Int.tmod a0 100) = 0
    · rw [if_pos c3] at H
      have c3b0 : ((Int.tmod a0 100) == 0) = true := beq_iff_eq.mpr c3
      have c3b1 : ((Int.tmod a0 100) != 0) = false := bne_eq_false_iff_eq.mpr c3
      clear c3
      obtain rfl := Option.some.inj H
      go_enter Try.func73, Try.ntmps73
      go_wp2
      go_ret
      exact ⟨by first | rfl | (simp; done) | (simp [*]; done), by repeat (first | exact Drawn0.refl _ | apply Drawn0.step)⟩
    · rw [if_neg c3] at H
      have c3b0 : ((Int.tmod a0 100) == 0) = false := beq_eq_false_iff_ne.mpr c3
      have c3b1 : ((Int.tmod a0 100) != 0) = true := bne_iff_ne.mpr c3
      obtain rfl := Option.some.inj H
      go_enter Try.func73, Try.ntmps73
      go_wp2
      go_ret
      exact ⟨by first | rfl | (simp; done) | (simp [*]; done), by repeat (first | exact Drawn0.refl _ | apply Drawn0.step)⟩
  · rw [if_neg c2] at H
    have c2b0 : ((Int.tmod a0 4) == 0) = false := beq_eq_false_iff_ne.mpr c2
    have c2b1 : ((Int.tmod a0 4) != 0) = true := bne_iff_ne.mpr c2
    obtain rfl := Option.some.inj H
    go_enter Try.func73, Try.ntmps73
    go_wp2
    go_ret
    exact ⟨by first | rfl | (simp; done) | (simp [*]; done), by repeat (first | exact Drawn0.refl _ | apply Drawn0.step)⟩

/-! ### epactref03_days: function 70 -/
def epactref03_days.f (a0 : Int) (a1 : Int) : Option (Int) := (some (([31, 28, 31, 30, 31, 30, 31, 31, 30, 31, 30, 31] : List Int) : List Int)).bind fun y265 => (if a1 = 2 then ((epactref03_Leap.f a0).bind fun t268 => (if t268 = true then (some 29) else (if 0 ≤ (wrap64 (a1 - 1)) then (if (wrap64 (a1 - 1)) < (y265.length : Int) then (some (rd y265 (wrap64 (a1 - 1)))) else (none)) else (none)))) else (if 0 ≤ (wrap64 (a1 - 1)) then (if (wrap64 (a1 - 1)) < (y265.length : Int) then (some (rd y265 (wrap64 (a1 - 1)))) else (none)) else (none)))
set_option maxHeartbeats 8000000 in
set_option maxRecDepth 100000 in
theorem epactref03_days.calls (a0 : Int) (a1 : Int) (r : Int) (w : World) (h : epactref03_days.f a0 a1 = some r) :
    Calls Try.prog 70 #[.int .i64 a0, .int .i64 a1] w fun e w' => e = .returned (.int .i64 r) ∧ Below w.heap.size w w' := by
  have HB := Aside0.mk (Below.refl w.heap.size w)
  have H : ((some (([31, 28, 31, 30, 31, 30, 31, 31, 30, 31, 30, 31] : List Int) : List Int)).bind fun y265 => (if a1 = 2 then ((epactref03_Leap.f a0).bind fun t268 => (if t268 = true then (some 29) else (if 0 ≤ (wrap64 (a1 - 1)) then (if (wrap64 (a1 - 1)) < (y265.length : Int) then (some (rd y265 (wrap64 (a1 - 1)))) else (none)) else (none)))) else (if 0 ≤ (wrap64 (a1 - 1)) then (if (wrap64 (a1 - 1)) < (y265.length : Int) then (some (rd y265 (wrap64 (a1 - 1)))) else (none)) else (none)))) = some r := h
  clear h
  obtain ⟨y265, hy265⟩ : ∃ y_ : List Int, y_ = (([31, 28, 31, 30, 31, 30, 31, 31, 30, 31, 30, 31] : List Int)) := ⟨_, rfl⟩
  replace H : (if a1 = 2 then ((epactref03_Leap.f a0).bind fun t268 => (if t268 = true then (some 29) else (if 0 ≤ (wrap64 (a1 - 1)) then (if (wrap64 (a1 - 1)) < (y265.length : Int) then (some (rd y265 (wrap64 (a1 - 1)))) else (none)) else (none)))) else (if 0 ≤ (wrap64 (a1 - 1)) then (if (wrap64 (a1 - 1)) < (y265.length : Int) then (some (rd y265 (wrap64 (a1 - 1)))) else (none)) else (none))) = some r := by first | (rw [hy265]; with_reducible exact H) | (have H2_ := (Option.bind_some _ _).symm.trans H; rw [hy265]; with_reducible exact H2_) | (have H2_ := (Option.bind_some _ _).symm.trans H; with_reducible exact H2_) | with_reducible exact H | (rw [hy265]; exact H) | exact H
  have Ny265 := Aside0.mk hy265
  clear hy265
  by_cases c3 : a1 = 2
  · rw [if_pos c3] at H
    have c3b0 : (a1 == 2) = true := beq_iff_eq.mpr c3
    have c3b1 : (a1 != 2) = false := bne_eq_false_iff_eq.mpr c3
    clear c3
    replace H := Option.bind_eq_some_iff.mp H
    obtain ⟨t268, A40, H⟩ := H
    replace H : (if t268 = true then (some 29) else (if 0 ≤ (wrap64 (a1 - 1)) then (if (wrap64 (a1 - 1)) < (y265.length : Int) then (some (rd y265 (wrap64 (a1 - 1)))) else (none)) else (none))) = some r := H
    have A4 := Aside0.mk A40
    clear A40
    by_cases c5 : t268 = true
    · subst c5
      have H1 : (some 29) = some r := by rw [if_pos rfl] at H; exact H
      clear H
      have H := H1
      clear H1
      obtain rfl := Option.some.inj H
      go_enter Try.func70, Try.ntmps70
      go_wp2_with (first | ((with_reducible refine gate_dst (N := 6) rfl ?_); refine Kd.R_lit (Kd.int .i64) _ 3 ?hg (N := 6) ?hd (xs := ([31, 28, 31, 30, 31, 30, 31, 31, 30, 31, 30, 31] : List Int)) (inner := [.int .i64 31, .int .i64 28, .int .i64 31, .int .i64 30, .int .i64 31, .int .i64 30, .int .i64 31, .int .i64 31, .int .i64 30, .int .i64 31, .int .i64 30, .int .i64 31]) (ok := fun _ => True) (okp := fun _ => True) ?hr ?hp (fun _ hk => hk) trivial (Below.refl _ _) (Nat.le_refl _) (by simp) ?_; (case hd => rfl); (case hg => rfl); (case hr => first | (go_simp; done) | (go_simp; rfl)); (case hp => exact (Reps.one (show Kd.M (Kd.int .i64) _ _ _ 31 [.int .i64 31] from rfl) (Reps.one (show Kd.M (Kd.int .i64) _ _ _ 28 [.int .i64 28] from rfl) (Reps.one (show Kd.M (Kd.int .i64) _ _ _ 31 [.int .i64 31] from rfl) (Reps.one (show Kd.M (Kd.int .i64) _ _ _ 30 [.int .i64 30] from rfl) (Reps.one (show Kd.M (Kd.int .i64) _ _ _ 31 [.int .i64 31] from rfl) (Reps.one (show Kd.M (Kd.int .i64) _ _ _ 30 [.int .i64 30] from rfl) (Reps.one (show Kd.M (Kd.int .i64) _ _ _ 31 [.int .i64 31] from rfl) (Reps.one (show Kd.M (Kd.int .i64) _ _ _ 31 [.int .i64 31] from rfl) (Reps.one (show Kd.M (Kd.int .i64) _ _ _ 30 [.int .i64 30] from rfl) (Reps.one (show Kd.M (Kd.int .i64) _ _ _ 31 [.int .i64 31] from rfl) (Reps.one (show Kd.M (Kd.int .i64) _ _ _ 30 [.int .i64 30] from rfl) (Reps.one (show Kd.M (Kd.int .i64) _ _ _ 31 [.int .i64 31] from rfl) (Reps.none _ _)))))))))))))); intro v266 w6 ho7 hb hg_ hnew_; clear hg_ hnew_; (first | rw [← Ny265.out] at ho7 | (simp only [Int.reduceToNat] at ho7; rw [← Ny265.out] at ho7)); have n0_ := Aside0.mk (Kd.R_lower ho7 (below_size (by repeat (first | (with_reducible first | exact HB.out | apply below_alloc | apply pw_below_drewN | apply below_drew1) | exact HB.out)))); have n1_ := Aside0.mk (below_step (by repeat (first | (with_reducible first | exact HB.out | apply below_alloc | apply pw_below_drewN | apply below_drew1) | exact HB.out)) hb); clear HB; have HO267 := n0_; have HB := n1_; clear n0_ n1_; clear hb ho7) | (go_at_call 73; (with_reducible refine (epactref03_Leap.calls a0 true _ A4.out).mono ?_); rintro e w' ⟨rfl, ⟨nd, rfl⟩⟩))
      go_ret
      exact ⟨by first | rfl | (simp [errW_none, errW_some] <;> rfl) | (simp [*, errW_none, errW_some] <;> rfl), by repeat (first | (with_reducible first | exact HB.out | apply below_alloc | apply pw_below_drewN | apply below_drew1) | exact HB.out)⟩
    · replace c5 := Bool.eq_false_iff.mpr c5
      subst c5
      have H1 : (if 0 ≤ (wrap64 (a1 - 1)) then (if (wrap64 (a1 - 1)) < (y265.length : Int) then (some (rd y265 (wrap64 (a1 - 1)))) else (none)) else (none)) = some r := by rw [if_neg (show ¬ (false = true) by decide)] at H; exact H
      clear H
      have H := H1
      clear H1
      obtain ⟨ji8, hji8⟩ : ∃ j_ : Int, (wrap64 (a1 - 1)) = j_ := ⟨_, rfl⟩
      replace H : (if 0 ≤ (ji8) then (if (ji8) < (y265.length : Int) then (some (rd y265 (ji8))) else (none)) else (none)) = some r := by first | (rw [hji8] at H; exact H) | (simp only [hji8] at H ⊢; exact H)
      (try rw [hji8] at A4)
      have hji8w : (IntKind.i64.wrap (a1 - 1)) = ji8 := (i64_w _).trans hji8
      by_cases c9 : 0 ≤ (ji8)
      · rw [if_pos c9] at H
        have c9b0 : decide (0 ≤ (ji8)) = true := decide_eq_true c9
        clear c9
        by_cases c10 : (ji8) < (y265.length : Int)
        · rw [if_pos c10] at H
          have c10b0 : decide ((ji8) < (y265.length : Int)) = true := decide_eq_true c10
          clear c10
          obtain rfl := Option.some.inj H
          go_enter Try.func70, Try.ntmps70
          go_wp2_with (first | ((with_reducible refine gate_dst (N := 6) rfl ?_); refine Kd.R_lit (Kd.int .i64) _ 3 ?hg (N := 6) ?hd (xs := ([31, 28, 31, 30, 31, 30, 31, 31, 30, 31, 30, 31] : List Int)) (inner := [.int .i64 31, .int .i64 28, .int .i64 31, .int .i64 30, .int .i64 31, .int .i64 30, .int .i64 31, .int .i64 31, .int .i64 30, .int .i64 31, .int .i64 30, .int .i64 31]) (ok := fun _ => True) (okp := fun _ => True) ?hr ?hp (fun _ hk => hk) trivial (Below.refl _ _) (Nat.le_refl _) (by simp) ?_; (case hd => rfl); (case hg => rfl); (case hr => first | (go_simp; done) | (go_simp; rfl)); (case hp => exact (Reps.one (show Kd.M (Kd.int .i64) _ _ _ 31 [.int .i64 31] from rfl) (Reps.one (show Kd.M (Kd.int .i64) _ _ _ 28 [.int .i64 28] from rfl) (Reps.one (show Kd.M (Kd.int .i64) _ _ _ 31 [.int .i64 31] from rfl) (Reps.one (show Kd.M (Kd.int .i64) _ _ _ 30 [.int .i64 30] from rfl) (Reps.one (show Kd.M (Kd.int .i64) _ _ _ 31 [.int .i64 31] from rfl) (Reps.one (show Kd.M (Kd.int .i64) _ _ _ 30 [.int .i64 30] from rfl) (Reps.one (show Kd.M (Kd.int .i64) _ _ _ 31 [.int .i64 31] from rfl) (Reps.one (show Kd.M (Kd.int .i64) _ _ _ 31 [.int .i64 31] from rfl) (Reps.one (show Kd.M (Kd.int .i64) _ _ _ 30 [.int .i64 30] from rfl) (Reps.one (show Kd.M (Kd.int .i64) _ _ _ 31 [.int .i64 31] from rfl) (Reps.one (show Kd.M (Kd.int .i64) _ _ _ 30 [.int .i64 30] from rfl) (Reps.one (show Kd.M (Kd.int .i64) _ _ _ 31 [.int .i64 31] from rfl) (Reps.none _ _)))))))))))))); intro v266 w11 ho12 hb hg_ hnew_; clear hg_ hnew_; (first | rw [← Ny265.out] at ho12 | (simp only [Int.reduceToNat] at ho12; rw [← Ny265.out] at ho12)); have n0_ := Aside0.mk (Kd.R_lower ho12 (below_size (by repeat (first | (with_reducible first | exact HB.out | apply below_alloc | apply pw_below_drewN | apply below_drew1) | exact HB.out)))); have n1_ := Aside0.mk (below_step (by repeat (first | (with_reducible first | exact HB.out | apply below_alloc | apply pw_below_drewN | apply below_drew1) | exact HB.out)) hb); clear HB; have HO267 := n0_; have HB := n1_; clear n0_ n1_; clear hb ho12) | (go_at_call 73; (with_reducible refine (epactref03_Leap.calls a0 false _ A4.out).mono ?_); rintro e w' ⟨rfl, ⟨nd, rfl⟩⟩; obtain ⟨Ao13, co13, eo13⟩ := Kd.R_slice HO267.out; subst eo13; have p269 : 0 ≤ ((ji8) : Int) := of_decide_eq_true (by first | (with_reducible assumption) | assumption); have q269 : (ji8) < (y265.length : Int) := of_decide_eq_true (by first | (with_reducible assumption) | assumption); obtain ⟨ad269, e269, hx269_0⟩ := Kd.at_int (Kd.R_reads' HO267.out).2.2 (ji8) p269 q269; cases e269; replace p269 := eq_true p269; replace q269 := eq_true q269))
          go_ret
          exact ⟨by first | rfl | (simp [errW_none, errW_some] <;> rfl) | (simp only [← hji8]; first | rfl | (simp [errW_none, errW_some] <;> rfl)) | (simp [*, errW_none, errW_some] <;> rfl), by repeat (first | (with_reducible first | exact HB.out | apply below_alloc | apply pw_below_drewN | apply below_drew1) | exact HB.out)⟩
        · rw [if_neg c10] at H
          exact absurd H (by simp)
      · rw [if_neg c9] at H
        exact absurd H (by simp)
  · rw [if_neg c3] at H
    have c3b0 : (a1 == 2) = false := beq_eq_false_iff_ne.mpr c3
    have c3b1 : (a1 != 2) = true := bne_iff_ne.mpr c3
    obtain ⟨ji14, hji14⟩ : ∃ j_ : Int, (wrap64 (a1 - 1)) = j_ := ⟨_, rfl⟩
    replace H : (if 0 ≤ (ji14) then (if (ji14) < (y265.length : Int) then (some (rd y265 (ji14))) else (none)) else (none)) = some r := by first | (rw [hji14] at H; exact H) | (simp only [hji14] at H ⊢; exact H)
    have hji14w : (IntKind.i64.wrap (a1 - 1)) = ji14 := (i64_w _).trans hji14
    by_cases c15 : 0 ≤ (ji14)
    · rw [if_pos c15] at H
      have c15b0 : decide (0 ≤ (ji14)) = true := decide_eq_true c15
      clear c15
      by_cases c16 : (ji14) < (y265.length : Int)
      · rw [if_pos c16] at H
        have c16b0 : decide ((ji14) < (y265.length : Int)) = true := decide_eq_true c16
        clear c16
        obtain rfl := Option.some.inj H
        go_enter Try.func70, Try.ntmps70
        go_wp2_with (first | ((with_reducible refine gate_dst (N := 6) rfl ?_); refine Kd.R_lit (Kd.int .i64) _ 3 ?hg (N := 6) ?hd (xs := ([31, 28, 31, 30, 31, 30, 31, 31, 30, 31, 30, 31] : List Int)) (inner := [.int .i64 31, .int .i64 28, .int .i64 31, .int .i64 30, .int .i64 31, .int .i64 30, .int .i64 31, .int .i64 31, .int .i64 30, .int .i64 31, .int .i64 30, .int .i64 31]) (ok := fun _ => True) (okp := fun _ => True) ?hr ?hp (fun _ hk => hk) trivial (Below.refl _ _) (Nat.le_refl _) (by simp) ?_; (case hd => rfl); (case hg => rfl); (case hr => first | (go_simp; done) | (go_simp; rfl)); (case hp => exact (Reps.one (show Kd.M (Kd.int .i64) _ _ _ 31 [.int .i64 31] from rfl) (Reps.one (show Kd.M (Kd.int .i64) _ _ _ 28 [.int .i64 28] from rfl) (Reps.one (show Kd.M (Kd.int .i64) _ _ _ 31 [.int .i64 31] from rfl) (Reps.one (show Kd.M (Kd.int .i64) _ _ _ 30 [.int .i64 30] from rfl) (Reps.one (show Kd.M (Kd.int .i64) _ _ _ 31 [.int .i64 31] from rfl) (Reps.one (show Kd.M (Kd.int .i64) _ _ _ 30 [.int .i64 30] from rfl) (Reps.one (show Kd.M (Kd.int .i64) _ _ _ 31 [.int .i64 31] from rfl) (Reps.one (show Kd.M (Kd.int .i64) _ _ _ 31 [.int .i64 31] from rfl) (Reps.one (show Kd.M (Kd.int .i64) _ _ _ 30 [.int .i64 30] from rfl) (Reps.one (show Kd.M (Kd.int .i64) _ _ _ 31 [.int .i64 31] from rfl) (Reps.one (show Kd.M (Kd.int .i64) _ _ _ 30 [.int .i64 30] from rfl) (Reps.one (show Kd.M (Kd.int .i64) _ _ _ 31 [.int .i64 31] from rfl) (Reps.none _ _)))))))))))))); intro v266 w17 ho18 hb hg_ hnew_; clear hg_ hnew_; (first | rw [← Ny265.out] at ho18 | (simp only [Int.reduceToNat] at ho18; rw [← Ny265.out] at ho18)); have n0_ := Aside0.mk (Kd.R_lower ho18 (below_size (by repeat (first | (with_reducible first | exact HB.out | apply below_alloc | apply pw_below_drewN | apply below_drew1) | exact HB.out)))); have n1_ := Aside0.mk (below_step (by repeat (first | (with_reducible first | exact HB.out | apply below_alloc | apply pw_below_drewN | apply below_drew1) | exact HB.out)) hb); clear HB; have HO267 := n0_; have HB := n1_; clear n0_ n1_; clear hb ho18; obtain ⟨Ao19, co19, eo19⟩ := Kd.R_slice HO267.out; subst eo19; have p270 : 0 ≤ ((ji14) : Int) := of_decide_eq_true (by first | (with_reducible assumption) | assumption); have q270 : (ji14) < (y265.length : Int) := of_decide_eq_true (by first | (with_reducible assumption) | assumption); obtain ⟨ad270, e270, hx270_0⟩ := Kd.at_int (Kd.R_reads' HO267.out).2.2 (ji14) p270 q270; cases e270; replace p270 := eq_true p270; replace q270 := eq_true q270))
        go_ret
        exact ⟨by first | rfl | (simp [errW_none, errW_some] <;> rfl) | (simp only [← hji14]; first | rfl | (simp [errW_none, errW_some] <;> rfl)) | (simp [*, errW_none, errW_some] <;> rfl), by repeat (first | (with_reducible first | exact HB.out | apply below_alloc | apply pw_below_drewN | apply below_drew1) | exact HB.out)⟩
      · rw [if_neg c16] at H
        exact absurd H (by simp)
    · rw [if_neg c15] at H
      exact absurd H (by simp)

/-! ### epactref03_first: function 72 -/
def epactref03_first.f (a0 : Int) : Option (Int) := some (wrap64 ((wrap64 ((wrap64 ((wrap64 ((wrap64 (365 * (wrap64 (a0 - 1)))) + (wrap64 (Int.tdiv (wrap64 (a0 - 1)) 4)))) - (wrap64 (Int.tdiv (wrap64 (a0 - 1)) 100)))) + (wrap64 (Int.tdiv (wrap64 (a0 - 1)) 400)))) + (-719162)))
set_option maxHeartbeats 8000000 in
set_option maxRecDepth 100000 in
theorem epactref03_first.calls (a0 : Int) (r : Int) (w : World) (h : epactref03_first.f a0 = some r) :
    Calls Try.prog 72 #[.int .i64 a0] w fun e w' => e = .returned (.int .i64 r) ∧ Drawn0 w w' := by
  have H : (some (wrap64 ((wrap64 ((wrap64 ((wrap64 ((wrap64 (365 * (wrap64 (a0 - 1)))) + (wrap64 (Int.tdiv (wrap64 (a0 - 1)) 4)))) - (wrap64 (Int.tdiv (wrap64 (a0 - 1)) 100)))) + (wrap64 (Int.tdiv (wrap64 (a0 - 1)) 400)))) + (-719162)))) = some r := h
  clear h
  obtain rfl := Option.some.inj H
  go_enter Try.func72, Try.ntmps72
  go_wp2
  go_ret
  exact ⟨by first | rfl | (simp; done) | (simp [*]; done), by repeat (first | exact Drawn0.refl _ | apply Drawn0.step)⟩

end Go.Proofs.Ytlfnkamhokfeaaa.PAll
