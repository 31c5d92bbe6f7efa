-- Written for this claim by wip/tools of this repo (after the kit's print; own contracts laid in).
import Derived.Test.YtlfnkamhokfeaaaPAllx0
import Derived.Test.YtlfnkamhokfeaaaPAllx1
import Derived.Test.YtlfnkamhokfeaaaPAllx4
import Derived.Test.YtlfnkamhokfeaaaPAllx5
import Derived.Test.YtlfnkamhokfeaaaPAllx6
namespace Go.Proofs.Ytlfnkamhokfeaaa.PAll
open Go.RowKit Go.Proofs.YtlfnkamhokfeaaaW.PrintWords Go.Proofs.YtlfnkamhokfeaaaW.PrintLast Go.Proofs.YtlfnkamhokfeaaaW.PrintMore
attribute [local go_sem] max2_int min2_int max_two min_two max_three min_three max_four min_four   -- for this text's walks alone
set_option linter.unusedVariables false
set_option linter.unusedSimpArgs false

/-! ### epactlaw23_PosixBack: function 4 -/
def epactlaw23_PosixBack.f (k : Nat) (l0 : List (S40)) (a1 : Int) : Option (Bool) := (epactlaw23_small.f k).bind fun t410 => (if (l0.length : Int) > 300 then (some t410) else ((posix_Utc.f k l0 a1).bind fun bt411 => ((posix_Tai.f k l0 a1).bind fun bt414 => (if bt411.2.2 = bt414.2 then (if bt411.2.2 = 0 then ((posix_Of.f bt411.1 bt411.2.1).bind fun bt416 => ((posix_From.f k l0 bt414.1).bind fun bt418 => (if t410 = true then (if bt416.2 = true then (if bt416.1 = a1 then (if bt418.2 = 0 then (if bt418.1 = a1 then (some (decide (bt411.2.1 < 86400))) else (none)) else (none)) else (none)) else (none)) else (none)))) else (if bt411.2.2 = 11 then ((posix_Day.f a1).bind fun bt420 => ((scale_Length.f k l0 bt420.1).bind fun bt422 => (if t410 = true then (if bt420.2 = 86399 then (if bt422.1 = 86399 then (some (bt422.2 == 0)) else (none)) else (none)) else (none)))) else (if t410 = true then (if bt411.1 = 0 then (if bt411.2.1 = 0 then (some (bt414.1 == 0)) else (none)) else (none)) else (none)))) else (none)))))
theorem epactlaw23_PosixBack.mono : ∀ a0 a1 k, LeO (epactlaw23_PosixBack.f k a0 a1) (epactlaw23_PosixBack.f (k + 1) a0 a1) := by
  intro a0 a1 k
  unfold epactlaw23_PosixBack.f
  repeat' first
      | (with_reducible exact epactlaw23_small.mono _)
      | (with_reducible exact posix_From.mono _ _ _)
      | (with_reducible exact posix_Tai.mono _ _ _)
      | (with_reducible exact posix_Utc.mono _ _ _)
      | (with_reducible exact scale_Length.mono _ _ _)
      | (with_reducible exact LeO.refl _)
      | (with_reducible exact LeO.none _)
      | (with_reducible refine LeO.ite ?_ ?_)
      | (with_reducible refine LeO.bind ?_ (fun _ => ?_))
      | exact epactlaw23_small.mono _
      | exact posix_From.mono _ _ _
      | exact posix_Tai.mono _ _ _
      | exact posix_Utc.mono _ _ _
      | exact scale_Length.mono _ _ _
      | exact LeO.none _
      | refine LeO.ite ?_ ?_
      | refine LeO.bind ?_ (fun _ => ?_)
set_option maxHeartbeats 8000000 in
set_option maxRecDepth 100000 in
theorem epactlaw23_PosixBack.calls (k : Nat) (A0 : Option Addr) (c0 : Nat) (l0 : List (S40)) (a1 : Int) (r : Bool) (w : World) (hr0 : Kd.C k40 w A0 l0.length l0) (hc0 : l0.length ≤ c0) (h : epactlaw23_PosixBack.f k l0 a1 = some r) :
    Calls Try.prog 4 #[.slice A0 l0.length c0, .int .i64 a1] w fun e w' => e = .returned (.bool r) ∧ Below w.heap.size w w' := by
  have HR0 := Aside0.mk hr0
  have HC0 := Aside0.mk hc0
  clear hr0 hc0
  have HB := Aside0.mk (Below.refl w.heap.size w)
  have H : ((epactlaw23_small.f k).bind fun t410 => (if (l0.length : Int) > 300 then (some t410) else ((posix_Utc.f k l0 a1).bind fun bt411 => ((posix_Tai.f k l0 a1).bind fun bt414 => (if bt411.2.2 = bt414.2 then (if bt411.2.2 = 0 then ((posix_Of.f bt411.1 bt411.2.1).bind fun bt416 => ((posix_From.f k l0 bt414.1).bind fun bt418 => (if t410 = true then (if bt416.2 = true then (if bt416.1 = a1 then (if bt418.2 = 0 then (if bt418.1 = a1 then (some (decide (bt411.2.1 < 86400))) else (none)) else (none)) else (none)) else (none)) else (none)))) else (if bt411.2.2 = 11 then ((posix_Day.f a1).bind fun bt420 => ((scale_Length.f k l0 bt420.1).bind fun bt422 => (if t410 = true then (if bt420.2 = 86399 then (if bt422.1 = 86399 then (some (bt422.2 == 0)) else (none)) else (none)) else (none)))) else (if t410 = true then (if bt411.1 = 0 then (if bt411.2.1 = 0 then (some (bt414.1 == 0)) else (none)) else (none)) else (none)))) else (none)))))) = some r := h
  clear h
  replace H := Option.bind_eq_some_iff.mp H
  obtain ⟨t410, A30, H⟩ := H
  replace H : (if (l0.length : Int) > 300 then (some t410) else ((posix_Utc.f k l0 a1).bind fun bt411 => ((posix_Tai.f k l0 a1).bind fun bt414 => (if bt411.2.2 = bt414.2 then (if bt411.2.2 = 0 then ((posix_Of.f bt411.1 bt411.2.1).bind fun bt416 => ((posix_From.f k l0 bt414.1).bind fun bt418 => (if t410 = true then (if bt416.2 = true then (if bt416.1 = a1 then (if bt418.2 = 0 then (if bt418.1 = a1 then (some (decide (bt411.2.1 < 86400))) else (none)) else (none)) else (none)) else (none)) else (none)))) else (if bt411.2.2 = 11 then ((posix_Day.f a1).bind fun bt420 => ((scale_Length.f k l0 bt420.1).bind fun bt422 => (if t410 = true then (if bt420.2 = 86399 then (if bt422.1 = 86399 then (some (bt422.2 == 0)) else (none)) else (none)) else (none)))) else (if t410 = true then (if bt411.1 = 0 then (if bt411.2.1 = 0 then (some (bt414.1 == 0)) else (none)) else (none)) else (none)))) else (none))))) = some r := H
  have A3 := Aside0.mk A30
  clear A30
  by_cases c4 : (l0.length : Int) > 300
  · rw [if_pos c4] at H
    have c4b0 : decide (300 < (l0.length : Int)) = true := decide_eq_true c4
    have c4b1 : decide (300 < l0.length) = true := decide_eq_true (by omega)
    clear c4
    obtain rfl := Option.some.inj H
    go_enter Try.func4, Try.ntmps4
    go_wp2_with (first | ((with_reducible refine gate_callee (f := 8) rfl ?_); refine goesL_ (some 19) rfl rfl Try.func8 (by kernel_rfl) rfl #[] rfl (by (try simp only [List.map_toArray, List.map_cons, List.map_nil]); first | done | rfl | (simp only [List.length_drop, List.length_take]; rfl)) ?_; (with_reducible refine (epactlaw23_small.calls k  t410 _ A3.out).mono ?_); rintro e w5 ⟨rfl, hb⟩; refine ⟨_, rfl, ?_⟩; have n0_ := Aside0.mk (below_step (by repeat (first | (with_reducible first | exact HB.out | apply below_alloc | apply pw_below_drewN | apply below_drew1) | exact HB.out)) hb); clear HB; have HB := n0_; clear n0_; (try clear hb); (try clear hb2); (try clear hk); (try clear hi)))
    go_ret
    exact ⟨by first | rfl | (simp [errW_none, errW_some] <;> rfl) | (simp [*, errW_none, errW_some] <;> rfl), by repeat (first | (with_reducible first | exact HB.out | apply below_alloc | apply pw_below_drewN | apply below_drew1) | exact HB.out)⟩
  · rw [if_neg c4] at H
    have c4b0 : decide (300 < (l0.length : Int)) = false := decide_eq_false c4
    have c4b1 : decide (300 < l0.length) = false := decide_eq_false (by omega)
    clear c4
    replace H := Option.bind_eq_some_iff.mp H
    obtain ⟨⟨t411, t412, t413⟩, A60, H⟩ := H
    replace H : ((posix_Tai.f k l0 a1).bind fun bt414 => (if t413 = bt414.2 then (if t413 = 0 then ((posix_Of.f t411 t412).bind fun bt416 => ((posix_From.f k l0 bt414.1).bind fun bt418 => (if t410 = true then (if bt416.2 = true then (if bt416.1 = a1 then (if bt418.2 = 0 then (if bt418.1 = a1 then (some (decide (t412 < 86400))) else (none)) else (none)) else (none)) else (none)) else (none)))) else (if t413 = 11 then ((posix_Day.f a1).bind fun bt420 => ((scale_Length.f k l0 bt420.1).bind fun bt422 => (if t410 = true then (if bt420.2 = 86399 then (if bt422.1 = 86399 then (some (bt422.2 == 0)) else (none)) else (none)) else (none)))) else (if t410 = true then (if t411 = 0 then (if t412 = 0 then (some (bt414.1 == 0)) else (none)) else (none)) else (none)))) else (none))) = some r := H
    have A6 := Aside0.mk A60
    clear A60
    replace H := Option.bind_eq_some_iff.mp H
    obtain ⟨⟨t414, t415⟩, A70, H⟩ := H
    replace H : (if t413 = t415 then (if t413 = 0 then ((posix_Of.f t411 t412).bind fun bt416 => ((posix_From.f k l0 t414).bind fun bt418 => (if t410 = true then (if bt416.2 = true then (if bt416.1 = a1 then (if bt418.2 = 0 then (if bt418.1 = a1 then (some (decide (t412 < 86400))) else (none)) else (none)) else (none)) else (none)) else (none)))) else (if t413 = 11 then ((posix_Day.f a1).bind fun bt420 => ((scale_Length.f k l0 bt420.1).bind fun bt422 => (if t410 = true then (if bt420.2 = 86399 then (if bt422.1 = 86399 then (some (bt422.2 == 0)) else (none)) else (none)) else (none)))) else (if t410 = true then (if t411 = 0 then (if t412 = 0 then (some (t414 == 0)) else (none)) else (none)) else (none)))) else (none)) = some r := H
    have A7 := Aside0.mk A70
    clear A70
    by_cases c8 : t413 = t415
    · rw [if_pos c8] at H
      have c8b0 : (t413 == t415) = true := beq_iff_eq.mpr c8
      have c8b1 : (t413 != t415) = false := bne_eq_false_iff_eq.mpr c8
      clear c8
      by_cases c9 : t413 = 0
      · rw [if_pos c9] at H
        have c9b0 : (t413 == 0) = true := beq_iff_eq.mpr c9
        have c9b1 : (t413 != 0) = false := bne_eq_false_iff_eq.mpr c9
        clear c9
        replace H := Option.bind_eq_some_iff.mp H
        obtain ⟨⟨t416, t417⟩, A100, H⟩ := H
        replace H : ((posix_From.f k l0 t414).bind fun bt418 => (if t410 = true then (if t417 = true then (if t416 = a1 then (if bt418.2 = 0 then (if bt418.1 = a1 then (some (decide (t412 < 86400))) else (none)) else (none)) else (none)) else (none)) else (none))) = some r := H
        have A10 := Aside0.mk A100
        clear A100
        replace H := Option.bind_eq_some_iff.mp H
        obtain ⟨⟨t418, t419⟩, A110, H⟩ := H
        replace H : (if t410 = true then (if t417 = true then (if t416 = a1 then (if t419 = 0 then (if t418 = a1 then (some (decide (t412 < 86400))) else (none)) else (none)) else (none)) else (none)) else (none)) = some r := H
        have A11 := Aside0.mk A110
        clear A110
        by_cases c12 : t410 = true
        · subst c12
          have H1 : (if t417 = true then (if t416 = a1 then (if t419 = 0 then (if t418 = a1 then (some (decide (t412 < 86400))) else (none)) else (none)) else (none)) else (none)) = some r := by rw [if_pos rfl] at H; exact H
          clear H
          have H := H1
          clear H1
          by_cases c13 : t417 = true
          · subst c13
            have H1 : (if t416 = a1 then (if t419 = 0 then (if t418 = a1 then (some (decide (t412 < 86400))) else (none)) else (none)) else (none)) = some r := by rw [if_pos rfl] at H; exact H
            clear H
            have H := H1
            clear H1
            by_cases c14 : t416 = a1
            · rw [if_pos c14] at H
              have c14b0 : (t416 == a1) = true := beq_iff_eq.mpr c14
              have c14b1 : (t416 != a1) = false := bne_eq_false_iff_eq.mpr c14
              clear c14
              by_cases c15 : t419 = 0
              · rw [if_pos c15] at H
                have c15b0 : (t419 == 0) = true := beq_iff_eq.mpr c15
                have c15b1 : (t419 != 0) = false := bne_eq_false_iff_eq.mpr c15
                clear c15
                by_cases c16 : t418 = a1
                · rw [if_pos c16] at H
                  have c16b0 : (t418 == a1) = true := beq_iff_eq.mpr c16
                  have c16b1 : (t418 != a1) = false := bne_eq_false_iff_eq.mpr c16
                  clear c16
                  obtain rfl := Option.some.inj H
                  go_enter Try.func4, Try.ntmps4
                  go_wp2_with (first | ((with_reducible refine gate_callee (f := 8) rfl ?_); refine goesL_ (some 19) rfl rfl Try.func8 (by kernel_rfl) rfl #[] rfl (by (try simp only [List.map_toArray, List.map_cons, List.map_nil]); first | done | rfl | (simp only [List.length_drop, List.length_take]; rfl)) ?_; (with_reducible refine (epactlaw23_small.calls k  true _ A3.out).mono ?_); rintro e w17 ⟨rfl, hb⟩; refine ⟨_, rfl, ?_⟩; have n0_ := Aside0.mk (below_step (by repeat (first | (with_reducible first | exact HB.out | apply below_alloc | apply pw_below_drewN | apply below_drew1) | exact HB.out)) hb); clear HB; have HB := n0_; clear n0_; (try clear hb); (try clear hb2); (try clear hk); (try clear hi)) | ((with_reducible refine gate_callee (f := 13) rfl ?_); refine goesL_ (some 27) rfl rfl Try.func13 (by kernel_rfl) rfl #[.slice A0 l0.length c0, .int .i64 a1] rfl (by (try simp only [List.map_toArray, List.map_cons, List.map_nil]); first | done | rfl | (simp only [List.length_drop, List.length_take]; rfl)) ?_; (with_reducible refine (posix_Utc.calls k _ _ l0 a1 t411 t412 t413 _ ?side1 ?side2 A6.out).mono ?_); (case side1 => repeat (first | exact (Kd.C_below HR0.out HB.out) | (with_reducible refine Kd.C_alloc ?_ _) | (with_reducible refine Kd.C_drewN ?_ _) | (with_reducible refine Kd.C_drew ?_))); (case side2 => exact HC0.out); rintro e w18 ⟨rfl, hb⟩; refine ⟨_, rfl, ?_⟩; have n0_ := Aside0.mk (below_step (by repeat (first | (with_reducible first | exact HB.out | apply below_alloc | apply pw_below_drewN | apply below_drew1) | exact HB.out)) hb); clear HB; have HB := n0_; clear n0_; (try clear hb); (try clear hb2); (try clear hk); (try clear hi)) | ((with_reducible refine gate_callee (f := 15) rfl ?_); refine goesL_ (some 34) rfl rfl Try.func15 (by kernel_rfl) rfl #[.slice A0 l0.length c0, .int .i64 a1] rfl (by (try simp only [List.map_toArray, List.map_cons, List.map_nil]); first | done | rfl | (simp only [List.length_drop, List.length_take]; rfl)) ?_; (with_reducible refine (posix_Tai.calls k _ _ l0 a1 t414 t415 _ ?side1 ?side2 A7.out).mono ?_); (case side1 => repeat (first | exact (Kd.C_below HR0.out HB.out) | (with_reducible refine Kd.C_alloc ?_ _) | (with_reducible refine Kd.C_drewN ?_ _) | (with_reducible refine Kd.C_drew ?_))); (case side2 => exact HC0.out); rintro e w19 ⟨rfl, hb⟩; refine ⟨_, rfl, ?_⟩; have n0_ := Aside0.mk (below_step (by repeat (first | (with_reducible first | exact HB.out | apply below_alloc | apply pw_below_drewN | apply below_drew1) | exact HB.out)) hb); clear HB; have HB := n0_; clear n0_; (try clear hb); (try clear hb2); (try clear hk); (try clear hi)) | ((with_reducible refine gate_callee (f := 9) rfl ?_); refine goesL_ (some 45) rfl rfl Try.func9 (by kernel_rfl) rfl #[.int .i64 t411, .int .i64 t412] rfl (by (try simp only [List.map_toArray, List.map_cons, List.map_nil]); first | done | rfl | (simp only [List.length_drop, List.length_take]; rfl)) ?_; (with_reducible refine (posix_Of.calls t411 t412 t416 true _ A10.out).mono ?_); rintro e w20 ⟨rfl, hb⟩; refine ⟨_, rfl, ?_⟩; have n0_ := Aside0.mk (below_step (by repeat (first | (with_reducible first | exact HB.out | apply below_alloc | apply pw_below_drewN | apply below_drew1) | exact HB.out)) hb); clear HB; have HB := n0_; clear n0_; (try clear hb); (try clear hb2); (try clear hk); (try clear hi)) | ((with_reducible refine gate_callee (f := 17) rfl ?_); refine goesL_ (some 51) rfl rfl Try.func17 (by kernel_rfl) rfl #[.slice A0 l0.length c0, .int .i64 t414] rfl (by (try simp only [List.map_toArray, List.map_cons, List.map_nil]); first | done | rfl | (simp only [List.length_drop, List.length_take]; rfl)) ?_; (with_reducible refine (posix_From.calls k _ _ l0 t414 t418 t419 _ ?side1 ?side2 A11.out).mono ?_); (case side1 => repeat (first | exact (Kd.C_below HR0.out HB.out) | (with_reducible refine Kd.C_alloc ?_ _) | (with_reducible refine Kd.C_drewN ?_ _) | (with_reducible refine Kd.C_drew ?_))); (case side2 => exact HC0.out); rintro e w21 ⟨rfl, hb⟩; refine ⟨_, rfl, ?_⟩; have n0_ := Aside0.mk (below_step (by repeat (first | (with_reducible first | exact HB.out | apply below_alloc | apply pw_below_drewN | apply below_drew1) | exact HB.out)) hb); clear HB; have HB := n0_; clear n0_; (try clear hb); (try clear hb2); (try clear hk); (try clear hi)))
                  go_ret
                  exact ⟨by first | rfl | (simp [errW_none, errW_some] <;> rfl) | (simp [*, errW_none, errW_some] <;> rfl), by repeat (first | (with_reducible first | exact HB.out | apply below_alloc | apply pw_below_drewN | apply below_drew1) | exact HB.out)⟩
                · rw [if_neg c16] at H
                  exact absurd H (by simp)
              · rw [if_neg c15] at H
                exact absurd H (by simp)
            · rw [if_neg c14] at H
              exact absurd H (by simp)
          · replace c13 := Bool.eq_false_iff.mpr c13
            subst c13
            have H1 : (none) = some r := by rw [if_neg (show ¬ (false = true) by decide)] at H; exact H
            clear H
            have H := H1
            clear H1
            exact absurd H (by simp)
        · replace c12 := Bool.eq_false_iff.mpr c12
          subst c12
          have H1 : (none) = some r := by rw [if_neg (show ¬ (false = true) by decide)] at H; exact H
          clear H
          have H := H1
          clear H1
          exact absurd H (by simp)
      · rw [if_neg c9] at H
        have c9b0 : (t413 == 0) = false := beq_eq_false_iff_ne.mpr c9
        have c9b1 : (t413 != 0) = true := bne_iff_ne.mpr c9
        by_cases c22 : t413 = 11
        · rw [if_pos c22] at H
          have c22b0 : (t413 == 11) = true := beq_iff_eq.mpr c22
          have c22b1 : (t413 != 11) = false := bne_eq_false_iff_eq.mpr c22
          clear c22
          replace H := Option.bind_eq_some_iff.mp H
          obtain ⟨⟨t420, t421⟩, A230, H⟩ := H
          replace H : ((scale_Length.f k l0 t420).bind fun bt422 => (if t410 = true then (if t421 = 86399 then (if bt422.1 = 86399 then (some (bt422.2 == 0)) else (none)) else (none)) else (none))) = some r := H
          have A23 := Aside0.mk A230
          clear A230
          replace H := Option.bind_eq_some_iff.mp H
          obtain ⟨⟨t422, t423⟩, A240, H⟩ := H
          replace H : (if t410 = true then (if t421 = 86399 then (if t422 = 86399 then (some (t423 == 0)) else (none)) else (none)) else (none)) = some r := H
          have A24 := Aside0.mk A240
          clear A240
          by_cases c25 : t410 = true
          · subst c25
            have H1 : (if t421 = 86399 then (if t422 = 86399 then (some (t423 == 0)) else (none)) else (none)) = some r := by rw [if_pos rfl] at H; exact H
            clear H
            have H := H1
            clear H1
            by_cases c26 : t421 = 86399
            · rw [if_pos c26] at H
              have c26b0 : (t421 == 86399) = true := beq_iff_eq.mpr c26
              have c26b1 : (t421 != 86399) = false := bne_eq_false_iff_eq.mpr c26
              clear c26
              by_cases c27 : t422 = 86399
              · rw [if_pos c27] at H
                have c27b0 : (t422 == 86399) = true := beq_iff_eq.mpr c27
                have c27b1 : (t422 != 86399) = false := bne_eq_false_iff_eq.mpr c27
                clear c27
                obtain rfl := Option.some.inj H
                go_enter Try.func4, Try.ntmps4
                go_wp2_with (first | ((with_reducible refine gate_callee (f := 8) rfl ?_); refine goesL_ (some 19) rfl rfl Try.func8 (by kernel_rfl) rfl #[] rfl (by (try simp only [List.map_toArray, List.map_cons, List.map_nil]); first | done | rfl | (simp only [List.length_drop, List.length_take]; rfl)) ?_; (with_reducible refine (epactlaw23_small.calls k  true _ A3.out).mono ?_); rintro e w28 ⟨rfl, hb⟩; refine ⟨_, rfl, ?_⟩; have n0_ := Aside0.mk (below_step (by repeat (first | (with_reducible first | exact HB.out | apply below_alloc | apply pw_below_drewN | apply below_drew1) | exact HB.out)) hb); clear HB; have HB := n0_; clear n0_; (try clear hb); (try clear hb2); (try clear hk); (try clear hi)) | ((with_reducible refine gate_callee (f := 13) rfl ?_); refine goesL_ (some 27) rfl rfl Try.func13 (by kernel_rfl) rfl #[.slice A0 l0.length c0, .int .i64 a1] rfl (by (try simp only [List.map_toArray, List.map_cons, List.map_nil]); first | done | rfl | (simp only [List.length_drop, List.length_take]; rfl)) ?_; (with_reducible refine (posix_Utc.calls k _ _ l0 a1 t411 t412 t413 _ ?side1 ?side2 A6.out).mono ?_); (case side1 => repeat (first | exact (Kd.C_below HR0.out HB.out) | (with_reducible refine Kd.C_alloc ?_ _) | (with_reducible refine Kd.C_drewN ?_ _) | (with_reducible refine Kd.C_drew ?_))); (case side2 => exact HC0.out); rintro e w29 ⟨rfl, hb⟩; refine ⟨_, rfl, ?_⟩; have n0_ := Aside0.mk (below_step (by repeat (first | (with_reducible first | exact HB.out | apply below_alloc | apply pw_below_drewN | apply below_drew1) | exact HB.out)) hb); clear HB; have HB := n0_; clear n0_; (try clear hb); (try clear hb2); (try clear hk); (try clear hi)) | ((with_reducible refine gate_callee (f := 15) rfl ?_); refine goesL_ (some 34) rfl rfl Try.func15 (by kernel_rfl) rfl #[.slice A0 l0.length c0, .int .i64 a1] rfl (by (try simp only [List.map_toArray, List.map_cons, List.map_nil]); first | done | rfl | (simp only [List.length_drop, List.length_take]; rfl)) ?_; (with_reducible refine (posix_Tai.calls k _ _ l0 a1 t414 t415 _ ?side1 ?side2 A7.out).mono ?_); (case side1 => repeat (first | exact (Kd.C_below HR0.out HB.out) | (with_reducible refine Kd.C_alloc ?_ _) | (with_reducible refine Kd.C_drewN ?_ _) | (with_reducible refine Kd.C_drew ?_))); (case side2 => exact HC0.out); rintro e w30 ⟨rfl, hb⟩; refine ⟨_, rfl, ?_⟩; have n0_ := Aside0.mk (below_step (by repeat (first | (with_reducible first | exact HB.out | apply below_alloc | apply pw_below_drewN | apply below_drew1) | exact HB.out)) hb); clear HB; have HB := n0_; clear n0_; (try clear hb); (try clear hb2); (try clear hk); (try clear hi)) | ((with_reducible refine gate_callee (f := 11) rfl ?_); refine goesL_ (some 80) rfl rfl Try.func11 (by kernel_rfl) rfl #[.int .i64 a1] rfl (by (try simp only [List.map_toArray, List.map_cons, List.map_nil]); first | done | rfl | (simp only [List.length_drop, List.length_take]; rfl)) ?_; (with_reducible refine (posix_Day.calls a1 t420 t421 _ A23.out).mono ?_); rintro e w' ⟨rfl, ⟨nd, rfl⟩⟩; refine ⟨_, rfl, ?_⟩) | ((with_reducible refine gate_callee (f := 21) rfl ?_); refine goesL_ (some 86) rfl rfl Try.func21 (by kernel_rfl) rfl #[.slice A0 l0.length c0, .int .i64 t420] rfl (by (try simp only [List.map_toArray, List.map_cons, List.map_nil]); first | done | rfl | (simp only [List.length_drop, List.length_take]; rfl)) ?_; (with_reducible refine (scale_Length.calls k _ _ l0 t420 t422 t423 _ ?side1 ?side2 A24.out).mono ?_); (case side1 => repeat (first | exact (Kd.C_below HR0.out (by repeat (first | (with_reducible first | exact HB.out | apply below_alloc | apply pw_below_drewN | apply below_drew1) | exact HB.out))) | (with_reducible refine Kd.C_alloc ?_ _) | (with_reducible refine Kd.C_drewN ?_ _) | (with_reducible refine Kd.C_drew ?_))); (case side2 => exact HC0.out); rintro e w31 ⟨rfl, hb⟩; refine ⟨_, rfl, ?_⟩; have n0_ := Aside0.mk (below_step (by repeat (first | (with_reducible first | exact HB.out | apply below_alloc | apply pw_below_drewN | apply below_drew1) | exact HB.out)) hb); clear HB; have HB := n0_; clear n0_; (try clear hb); (try clear hb2); (try clear hk); (try clear hi)))
                go_ret
                exact ⟨by first | rfl | (simp [errW_none, errW_some] <;> rfl) | (simp [*, errW_none, errW_some] <;> rfl), by repeat (first | (with_reducible first | exact HB.out | apply below_alloc | apply pw_below_drewN | apply below_drew1) | exact HB.out)⟩
              · rw [if_neg c27] at H
                exact absurd H (by simp)
            · rw [if_neg c26] at H
              exact absurd H (by simp)
          · replace c25 := Bool.eq_false_iff.mpr c25
            subst c25
            have H1 : (none) = some r := by rw [if_neg (show ¬ (false = true) by decide)] at H; exact H
            clear H
            have H := H1
            clear H1
            exact absurd H (by simp)
        · rw [if_neg c22] at H
          have c22b0 : (t413 == 11) = false := beq_eq_false_iff_ne.mpr c22
          have c22b1 : (t413 != 11) = true := bne_iff_ne.mpr c22
          by_cases c32 : t410 = true
          · subst c32
            have H1 : (if t411 = 0 then (if t412 = 0 then (some (t414 == 0)) else (none)) else (none)) = some r := by rw [if_pos rfl] at H; exact H
            clear H
            have H := H1
            clear H1
            by_cases c33 : t411 = 0
            · rw [if_pos c33] at H
              have c33b0 : (t411 == 0) = true := beq_iff_eq.mpr c33
              have c33b1 : (t411 != 0) = false := bne_eq_false_iff_eq.mpr c33
              clear c33
              by_cases c34 : t412 = 0
              · rw [if_pos c34] at H
                have c34b0 : (t412 == 0) = true := beq_iff_eq.mpr c34
                have c34b1 : (t412 != 0) = false := bne_eq_false_iff_eq.mpr c34
                clear c34
                obtain rfl := Option.some.inj H
                go_enter Try.func4, Try.ntmps4
                go_wp2_with (first | ((with_reducible refine gate_callee (f := 8) rfl ?_); refine goesL_ (some 19) rfl rfl Try.func8 (by kernel_rfl) rfl #[] rfl (by (try simp only [List.map_toArray, List.map_cons, List.map_nil]); first | done | rfl | (simp only [List.length_drop, List.length_take]; rfl)) ?_; (with_reducible refine (epactlaw23_small.calls k  true _ A3.out).mono ?_); rintro e w35 ⟨rfl, hb⟩; refine ⟨_, rfl, ?_⟩; have n0_ := Aside0.mk (below_step (by repeat (first | (with_reducible first | exact HB.out | apply below_alloc | apply pw_below_drewN | apply below_drew1) | exact HB.out)) hb); clear HB; have HB := n0_; clear n0_; (try clear hb); (try clear hb2); (try clear hk); (try clear hi)) | ((with_reducible refine gate_callee (f := 13) rfl ?_); refine goesL_ (some 27) rfl rfl Try.func13 (by kernel_rfl) rfl #[.slice A0 l0.length c0, .int .i64 a1] rfl (by (try simp only [List.map_toArray, List.map_cons, List.map_nil]); first | done | rfl | (simp only [List.length_drop, List.length_take]; rfl)) ?_; (with_reducible refine (posix_Utc.calls k _ _ l0 a1 t411 t412 t413 _ ?side1 ?side2 A6.out).mono ?_); (case side1 => repeat (first | exact (Kd.C_below HR0.out HB.out) | (with_reducible refine Kd.C_alloc ?_ _) | (with_reducible refine Kd.C_drewN ?_ _) | (with_reducible refine Kd.C_drew ?_))); (case side2 => exact HC0.out); rintro e w36 ⟨rfl, hb⟩; refine ⟨_, rfl, ?_⟩; have n0_ := Aside0.mk (below_step (by repeat (first | (with_reducible first | exact HB.out | apply below_alloc | apply pw_below_drewN | apply below_drew1) | exact HB.out)) hb); clear HB; have HB := n0_; clear n0_; (try clear hb); (try clear hb2); (try clear hk); (try clear hi)) | ((with_reducible refine gate_callee (f := 15) rfl ?_); refine goesL_ (some 34) rfl rfl Try.func15 (by kernel_rfl) rfl #[.slice A0 l0.length c0, .int .i64 a1] rfl (by (try simp only [List.map_toArray, List.map_cons, List.map_nil]); first | done | rfl | (simp only [List.length_drop, List.length_take]; rfl)) ?_; (with_reducible refine (posix_Tai.calls k _ _ l0 a1 t414 t415 _ ?side1 ?side2 A7.out).mono ?_); (case side1 => repeat (first | exact (Kd.C_below HR0.out HB.out) | (with_reducible refine Kd.C_alloc ?_ _) | (with_reducible refine Kd.C_drewN ?_ _) | (with_reducible refine Kd.C_drew ?_))); (case side2 => exact HC0.out); rintro e w37 ⟨rfl, hb⟩; refine ⟨_, rfl, ?_⟩; have n0_ := Aside0.mk (below_step (by repeat (first | (with_reducible first | exact HB.out | apply below_alloc | apply pw_below_drewN | apply below_drew1) | exact HB.out)) hb); clear HB; have HB := n0_; clear n0_; (try clear hb); (try clear hb2); (try clear hk); (try clear hi)))
                go_ret
                exact ⟨by first | rfl | (simp [errW_none, errW_some] <;> rfl) | (simp [*, errW_none, errW_some] <;> rfl), by repeat (first | (with_reducible first | exact HB.out | apply below_alloc | apply pw_below_drewN | apply below_drew1) | exact HB.out)⟩
              · rw [if_neg c34] at H
                exact absurd H (by simp)
            · rw [if_neg c33] at H
              exact absurd H (by simp)
          · replace c32 := Bool.eq_false_iff.mpr c32
            subst c32
            have H1 : (none) = some r := by rw [if_neg (show ¬ (false = true) by decide)] at H; exact H
            clear H
            have H := H1
            clear H1
            exact absurd H (by simp)
    · rw [if_neg c8] at H
      exact absurd H (by simp)

/-! ### epactlaw23_PosixOrder: function 5 -/
mutual
def epactlaw23_PosixOrder.j0 : Nat → List (S40) → Int → Bool → Bool → Option (Bool)
  | 0, _, _, _, _ => none
  | k + 1, x0, x1, x5, x33 => if x33 = true then (some x5) else ((posix_From.f k x0 x1).bind fun bt425 => ((posix_From.f k x0 (wrap64 (x1 + 1))).bind fun bt427 => (if bt425.2 = 0 then (epactlaw23_PosixOrder.j1 k x0 x1 x5 bt425.1 bt427.1 (bt427.2 != 0)) else (epactlaw23_PosixOrder.j1 k x0 x1 x5 bt425.1 bt427.1 true))))
def epactlaw23_PosixOrder.j1 : Nat → List (S40) → Int → Bool → Int → Int → Bool → Option (Bool)
  | 0, _, _, _, _, _, _ => none
  | k + 1, x0, x1, x5, x6, x8, x53 => if x53 = true then (some x5) else ((scale_Utc.f k x0 (wrap64 (x1 + 1))).bind fun bt429 => ((scale_Utc.f k x0 x1).bind fun bt432 => ((scale_Length.f k x0 bt432.1).bind fun bt435 => ((posix_Twice.f k x0 x6).bind fun bt437 => (if bt432.2.1 = 86400 then (if x5 = true then (if x8 = (wrap64 (x6 + 1)) then (if bt437.1 = true then (some (bt437.2 == 0)) else (none)) else (none)) else (none)) else (if bt429.2.1 = 86400 then (if bt435.1 = 86399 then (if bt432.2.1 = 86398 then (if x5 = true then (if x8 = (wrap64 (x6 + 2)) then (if (bt437.1 == (bt429.2.1 == 86400)) = true then (some (bt437.2 == 0)) else (none)) else (none)) else (none)) else (if x5 = true then (if x8 = (wrap64 (x6 + 0)) then (if (bt437.1 == (bt429.2.1 == 86400)) = true then (some (bt437.2 == 0)) else (none)) else (none)) else (none))) else (if x5 = true then (if x8 = (wrap64 (x6 + 0)) then (if (bt437.1 == (bt429.2.1 == 86400)) = true then (some (bt437.2 == 0)) else (none)) else (none)) else (none))) else (if bt435.1 = 86399 then (if bt432.2.1 = 86398 then (if x5 = true then (if x8 = (wrap64 (x6 + 2)) then (if (bt437.1 == (bt429.2.1 == 86400)) = true then (some (bt437.2 == 0)) else (none)) else (none)) else (none)) else (if x5 = true then (if x8 = (wrap64 (x6 + 1)) then (if (bt437.1 == (bt429.2.1 == 86400)) = true then (some (bt437.2 == 0)) else (none)) else (none)) else (none))) else (if x5 = true then (if x8 = (wrap64 (x6 + 1)) then (if (bt437.1 == (bt429.2.1 == 86400)) = true then (some (bt437.2 == 0)) else (none)) else (none)) else (none)))))))))
end
def epactlaw23_PosixOrder.f (k : Nat) (l0 : List (S40)) (a1 : Int) : Option (Bool) := (epactlaw23_small.f k).bind fun t424 => (if (l0.length : Int) > 300 then (epactlaw23_PosixOrder.j0 k l0 a1 t424 true) else (if a1 < 0 then (epactlaw23_PosixOrder.j0 k l0 a1 t424 true) else (epactlaw23_PosixOrder.j0 k l0 a1 t424 (decide (a1 > 1152921504606846976)))))
theorem epactlaw23_PosixOrder.mono_l : ∀ k, (∀ y0 y1 y2 y3, LeO (epactlaw23_PosixOrder.j0 k y0 y1 y2 y3) (epactlaw23_PosixOrder.j0 (k + 1) y0 y1 y2 y3)) ∧ (∀ y0 y1 y2 y3 y4 y5, LeO (epactlaw23_PosixOrder.j1 k y0 y1 y2 y3 y4 y5) (epactlaw23_PosixOrder.j1 (k + 1) y0 y1 y2 y3 y4 y5))
  | 0 => ⟨fun _ _ _ _ r h => by simp [epactlaw23_PosixOrder.j0] at h, fun _ _ _ _ _ _ r h => by simp [epactlaw23_PosixOrder.j1] at h⟩
  | k + 1 => by
    obtain ⟨ih0, ih1⟩ := epactlaw23_PosixOrder.mono_l k
    refine ⟨?_, ?_⟩
    · intro y0 y1 y2 y3
      unfold epactlaw23_PosixOrder.j0
      repeat' first
      | (with_reducible exact ih0 _ _ _ _)
      | (with_reducible exact ih1 _ _ _ _ _ _)
      | (with_reducible exact epactlaw23_small.mono _)
      | (with_reducible exact posix_From.mono _ _ _)
      | (with_reducible exact posix_Twice.mono _ _ _)
      | (with_reducible exact scale_Length.mono _ _ _)
      | (with_reducible exact scale_Utc.mono _ _ _)
      | (with_reducible exact LeO.refl _)
      | (with_reducible exact LeO.none _)
      | (with_reducible refine LeO.ite ?_ ?_)
      | (with_reducible refine LeO.bind ?_ (fun _ => ?_))
      | exact ih0 _ _ _ _
      | exact ih1 _ _ _ _ _ _
      | exact epactlaw23_small.mono _
      | exact posix_From.mono _ _ _
      | exact posix_Twice.mono _ _ _
      | exact scale_Length.mono _ _ _
      | exact scale_Utc.mono _ _ _
      | exact LeO.none _
      | refine LeO.ite ?_ ?_
      | refine LeO.bind ?_ (fun _ => ?_)
    · intro y0 y1 y2 y3 y4 y5
      unfold epactlaw23_PosixOrder.j1
      repeat' first
      | (with_reducible exact ih0 _ _ _ _)
      | (with_reducible exact ih1 _ _ _ _ _ _)
      | (with_reducible exact epactlaw23_small.mono _)
      | (with_reducible exact posix_From.mono _ _ _)
      | (with_reducible exact posix_Twice.mono _ _ _)
      | (with_reducible exact scale_Length.mono _ _ _)
      | (with_reducible exact scale_Utc.mono _ _ _)
      | (with_reducible exact LeO.refl _)
      | (with_reducible exact LeO.none _)
      | (with_reducible refine LeO.ite ?_ ?_)
      | (with_reducible refine LeO.bind ?_ (fun _ => ?_))
      | exact ih0 _ _ _ _
      | exact ih1 _ _ _ _ _ _
      | exact epactlaw23_small.mono _
      | exact posix_From.mono _ _ _
      | exact posix_Twice.mono _ _ _
      | exact scale_Length.mono _ _ _
      | exact scale_Utc.mono _ _ _
      | exact LeO.none _
      | refine LeO.ite ?_ ?_
      | refine LeO.bind ?_ (fun _ => ?_)
theorem epactlaw23_PosixOrder.mono : ∀ a0 a1 k, LeO (epactlaw23_PosixOrder.f k a0 a1) (epactlaw23_PosixOrder.f (k + 1) a0 a1) := by
  intro a0 a1 k
  obtain ⟨ih0, ih1⟩ := epactlaw23_PosixOrder.mono_l k
  unfold epactlaw23_PosixOrder.f
  repeat' first
      | (with_reducible exact ih0 _ _ _ _)
      | (with_reducible exact ih1 _ _ _ _ _ _)
      | (with_reducible exact epactlaw23_small.mono _)
      | (with_reducible exact posix_From.mono _ _ _)
      | (with_reducible exact posix_Twice.mono _ _ _)
      | (with_reducible exact scale_Length.mono _ _ _)
      | (with_reducible exact scale_Utc.mono _ _ _)
      | (with_reducible exact LeO.refl _)
      | (with_reducible exact LeO.none _)
      | (with_reducible refine LeO.ite ?_ ?_)
      | (with_reducible refine LeO.bind ?_ (fun _ => ?_))
      | exact ih0 _ _ _ _
      | exact ih1 _ _ _ _ _ _
      | exact epactlaw23_small.mono _
      | exact posix_From.mono _ _ _
      | exact posix_Twice.mono _ _ _
      | exact scale_Length.mono _ _ _
      | exact scale_Utc.mono _ _ _
      | exact LeO.none _
      | refine LeO.ite ?_ ?_
      | refine LeO.bind ?_ (fun _ => ?_)
set_option maxHeartbeats 8000000 in
set_option maxRecDepth 100000 in
theorem epactlaw23_PosixOrder.calls (k : Nat) (A0 : Option Addr) (c0 : Nat) (l0 : List (S40)) (a1 : Int) (r : Bool) (w : World) (hr0 : Kd.C k40 w A0 l0.length l0) (hc0 : l0.length ≤ c0) (h : epactlaw23_PosixOrder.f k l0 a1 = some r) :
    Calls Try.prog 5 #[.slice A0 l0.length c0, .int .i64 a1] w fun e w' => e = .returned (.bool r) ∧ Below w.heap.size w w' := by
  have HR0 := Aside0.mk hr0
  have HC0 := Aside0.mk hc0
  clear hr0 hc0
  have HB := Aside0.mk (Below.refl w.heap.size w)
  have H : ((epactlaw23_small.f k).bind fun t424 => (if (l0.length : Int) > 300 then (epactlaw23_PosixOrder.j0 k l0 a1 t424 true) else (if a1 < 0 then (epactlaw23_PosixOrder.j0 k l0 a1 t424 true) else (epactlaw23_PosixOrder.j0 k l0 a1 t424 (decide (a1 > 1152921504606846976)))))) = some r := h
  clear h
  replace H := Option.bind_eq_some_iff.mp H
  obtain ⟨t424, A30, H⟩ := H
  replace H : (if (l0.length : Int) > 300 then (epactlaw23_PosixOrder.j0 k l0 a1 t424 true) else (if a1 < 0 then (epactlaw23_PosixOrder.j0 k l0 a1 t424 true) else (epactlaw23_PosixOrder.j0 k l0 a1 t424 (decide (a1 > 1152921504606846976))))) = some r := H
  have A3 := Aside0.mk A30
  clear A30
  have HC4 := Aside0.mk H
  clear H
  go_enter Try.func5, Try.ntmps5
  go_upto_region 2 with (first | ((with_reducible refine gate_callee (f := 8) rfl ?_); refine goesL_ (some 22) rfl rfl Try.func8 (by kernel_rfl) rfl #[] rfl (by (try simp only [List.map_toArray, List.map_cons, List.map_nil]); first | done | rfl | (simp only [List.length_drop, List.length_take]; rfl)) ?_; (with_reducible refine (epactlaw23_small.calls k  t424 _ A3.out).mono ?_); rintro e w5 ⟨rfl, hb⟩; refine ⟨_, rfl, ?_⟩; have n0_ := Aside0.mk (below_step (by repeat (first | (with_reducible first | exact HB.out | apply below_alloc | apply pw_below_drewN | apply below_drew1) | exact HB.out)) hb); clear HB; have HB := n0_; clear n0_; (try clear hb); (try clear hb2); (try clear hk); (try clear hi)))
  (try simp only [Act.put, List.setIfInBounds_toArray, List.set_cons_zero, List.set_cons_succ])
  go_cut [33] (fun v33 wc => ∃ (kq : Nat) (x33_3 : Bool), v33 = .bool x33_3 ∧ Aside0 (epactlaw23_PosixOrder.j0 kq l0 a1 t424 x33_3 = some r) ∧ Aside0 (kq ≤ k) ∧ Aside0 (Below w.heap.size w wc))
  case first =>
    have H := HC4.out
    clear HC4
    by_cases c6 : (l0.length : Int) > 300
    · rw [if_pos c6] at H
      have c6b0 : decide (300 < (l0.length : Int)) = true := decide_eq_true c6
      have c6b1 : decide (300 < l0.length) = true := decide_eq_true (by omega)
      clear c6
      (first | rw [c6b0] | (simp only [i64_w, i32_w]; rw [c6b0]) | skip)
      have H' := Aside0.mk H
      clear H
      go_wp2
      go_meet
      case rel => exact ⟨_, (true), (by first | rfl | (simp; done) | (simp [*]; done)), H', ⟨by first | omega | exact Nat.le_refl _⟩, ⟨by repeat (first | (with_reducible first | exact HB.out | apply below_alloc | apply pw_below_drewN | apply below_drew1) | exact HB.out)⟩⟩
    · rw [if_neg c6] at H
      have c6b0 : decide (300 < (l0.length : Int)) = false := decide_eq_false c6
      have c6b1 : decide (300 < l0.length) = false := decide_eq_false (by omega)
      clear c6
      (first | rw [c6b0] | (simp only [i64_w, i32_w]; rw [c6b0]) | skip)
      by_cases c7 : a1 < 0
      · rw [if_pos c7] at H
        have c7b0 : decide (a1 < 0) = true := decide_eq_true c7
        clear c7
        have H' := Aside0.mk H
        clear H
        go_wp2
        go_meet
        case rel => exact ⟨_, (true), (by first | rfl | (simp; done) | (simp [*]; done)), H', ⟨by first | omega | exact Nat.le_refl _⟩, ⟨by repeat (first | (with_reducible first | exact HB.out | apply below_alloc | apply pw_below_drewN | apply below_drew1) | exact HB.out)⟩⟩
      · rw [if_neg c7] at H
        have c7b0 : decide (a1 < 0) = false := decide_eq_false c7
        clear c7
        have H' := Aside0.mk H
        clear H
        go_wp2
        go_meet
        case rel => exact ⟨_, (decide (a1 > 1152921504606846976)), (by first | rfl | (simp; done) | (simp [*]; done)), H', ⟨by first | omega | exact Nat.le_refl _⟩, ⟨by repeat (first | (with_reducible first | exact HB.out | apply below_alloc | apply pw_below_drewN | apply below_drew1) | exact HB.out)⟩⟩
  case rest =>
    clear HC4
    try clear p2
    try clear c5
    try clear c6
    try clear c6b0
    try clear c6b1
    try clear c7
    try clear c7b0
    obtain ⟨kq, x33_3, rfl, HA, HJ3, HB⟩ := hcut
    cases kq with
    | zero => exact absurd HA.out (by simp [epactlaw23_PosixOrder.j0])
    | succ kj3 =>
      have H := HA.out
      clear HA
      simp only [epactlaw23_PosixOrder.j0] at H
      by_cases c8 : x33_3 = true
      · subst c8
        have H1 : (some t424) = some r := by rw [if_pos rfl] at H; exact H
        clear H
        have H := H1
        clear H1
        obtain rfl := Option.some.inj H
        go_wp2
        go_ret
        exact ⟨by first | rfl | (simp [errW_none, errW_some] <;> rfl) | (simp [*, errW_none, errW_some] <;> rfl), by repeat (first | (with_reducible first | exact HB.out | apply below_alloc | apply pw_below_drewN | apply below_drew1) | exact HB.out)⟩
      · replace c8 := Bool.eq_false_iff.mpr c8
        subst c8
        have H1 : ((posix_From.f kj3 l0 a1).bind fun bt425 => ((posix_From.f kj3 l0 (wrap64 (a1 + 1))).bind fun bt427 => (if bt425.2 = 0 then (epactlaw23_PosixOrder.j1 kj3 l0 a1 t424 bt425.1 bt427.1 (bt427.2 != 0)) else (epactlaw23_PosixOrder.j1 kj3 l0 a1 t424 bt425.1 bt427.1 true)))) = some r := by rw [if_neg (show ¬ (false = true) by decide)] at H; exact H
        clear H
        have H := H1
        clear H1
        replace H := Option.bind_eq_some_iff.mp H
        obtain ⟨⟨t425, t426⟩, A90, H⟩ := H
        replace H : ((posix_From.f kj3 l0 (wrap64 (a1 + 1))).bind fun bt427 => (if t426 = 0 then (epactlaw23_PosixOrder.j1 kj3 l0 a1 t424 t425 bt427.1 (bt427.2 != 0)) else (epactlaw23_PosixOrder.j1 kj3 l0 a1 t424 t425 bt427.1 true))) = some r := H
        have A9 := Aside0.mk A90
        clear A90
        replace H := Option.bind_eq_some_iff.mp H
        obtain ⟨⟨t427, t428⟩, A100, H⟩ := H
        replace H : (if t426 = 0 then (epactlaw23_PosixOrder.j1 kj3 l0 a1 t424 t425 t427 (t428 != 0)) else (epactlaw23_PosixOrder.j1 kj3 l0 a1 t424 t425 t427 true)) = some r := H
        have A10 := Aside0.mk A100
        clear A100
        have HC11 := Aside0.mk H
        clear H
        go_upto_region 6 with (first | ((with_reducible refine gate_callee (f := 17) rfl ?_); refine goesL_ (some 38) rfl rfl Try.func17 (by kernel_rfl) rfl #[.slice A0 l0.length c0, .int .i64 a1] rfl (by (try simp only [List.map_toArray, List.map_cons, List.map_nil]); first | done | rfl | (simp only [List.length_drop, List.length_take]; rfl)) ?_; (with_reducible refine (posix_From.calls kj3 _ _ l0 a1 t425 t426 _ ?side1 ?side2 A9.out).mono ?_); (case side1 => repeat (first | exact (Kd.C_below HR0.out HB.out) | (with_reducible refine Kd.C_alloc ?_ _) | (with_reducible refine Kd.C_drewN ?_ _) | (with_reducible refine Kd.C_drew ?_))); (case side2 => exact HC0.out); rintro e w12 ⟨rfl, hb⟩; refine ⟨_, rfl, ?_⟩; have n0_ := Aside0.mk (below_step (by repeat (first | (with_reducible first | exact HB.out | apply below_alloc | apply pw_below_drewN | apply below_drew1) | exact HB.out)) hb); clear HB; have HB := n0_; clear n0_; (try clear hb); (try clear hb2); (try clear hk); (try clear hi)) | ((with_reducible refine gate_callee (f := 17) rfl ?_); refine goesL_ (some 45) rfl rfl Try.func17 (by kernel_rfl) rfl #[.slice A0 l0.length c0, .int .i64 (wrap64 (a1 + 1))] rfl (by (try simp only [List.map_toArray, List.map_cons, List.map_nil]); first | done | rfl | (simp only [List.length_drop, List.length_take]; rfl)) ?_; (with_reducible refine (posix_From.calls kj3 _ _ l0 (wrap64 (a1 + 1)) t427 t428 _ ?side1 ?side2 A10.out).mono ?_); (case side1 => repeat (first | exact (Kd.C_below HR0.out HB.out) | (with_reducible refine Kd.C_alloc ?_ _) | (with_reducible refine Kd.C_drewN ?_ _) | (with_reducible refine Kd.C_drew ?_))); (case side2 => exact HC0.out); rintro e w13 ⟨rfl, hb⟩; refine ⟨_, rfl, ?_⟩; have n0_ := Aside0.mk (below_step (by repeat (first | (with_reducible first | exact HB.out | apply below_alloc | apply pw_below_drewN | apply below_drew1) | exact HB.out)) hb); clear HB; have HB := n0_; clear n0_; (try clear hb); (try clear hb2); (try clear hk); (try clear hi)))
        (try simp only [Act.put, List.setIfInBounds_toArray, List.set_cons_zero, List.set_cons_succ])
        go_cut [53] (fun v53 wc => ∃ (kq : Nat) (x53_10 : Bool), v53 = .bool x53_10 ∧ Aside0 (epactlaw23_PosixOrder.j1 kq l0 a1 t424 t425 t427 x53_10 = some r) ∧ Aside0 (kq ≤ kj3) ∧ Aside0 (Below w.heap.size w wc))
        case first =>
          have H := HC11.out
          clear HC11
          by_cases c14 : t426 = 0
          · rw [if_pos c14] at H
            have c14b0 : (t426 == 0) = true := beq_iff_eq.mpr c14
            have c14b1 : (t426 != 0) = false := bne_eq_false_iff_eq.mpr c14
            clear c14
            (first | rw [c14b0] | (simp only [i64_w, i32_w]; rw [c14b0]) | skip)
            have H' := Aside0.mk H
            clear H
            go_wp2
            go_meet
            case rel => exact ⟨_, ((t428 != 0)), (by first | rfl | (simp; done) | (simp [*]; done)), H', ⟨by have := HJ3.out; first | omega | exact Nat.le_refl _⟩, ⟨by repeat (first | (with_reducible first | exact HB.out | apply below_alloc | apply pw_below_drewN | apply below_drew1) | exact HB.out)⟩⟩
          · rw [if_neg c14] at H
            have c14b0 : (t426 == 0) = false := beq_eq_false_iff_ne.mpr c14
            have c14b1 : (t426 != 0) = true := bne_iff_ne.mpr c14
            (first | rw [c14b0] | (simp only [i64_w, i32_w]; rw [c14b0]) | skip)
            have H' := Aside0.mk H
            clear H
            go_wp2
            go_meet
            case rel => exact ⟨_, (true), (by first | rfl | (simp; done) | (simp [*]; done)), H', ⟨by have := HJ3.out; first | omega | exact Nat.le_refl _⟩, ⟨by repeat (first | (with_reducible first | exact HB.out | apply below_alloc | apply pw_below_drewN | apply below_drew1) | exact HB.out)⟩⟩
        case rest =>
          clear HC11
          try clear c1
          try clear p2
          try clear c5
          try clear c6
          try clear c6b0
          try clear c6b1
          try clear p6
          try clear c7
          try clear c7b0
          try clear c8
          try clear c14
          try clear c14b0
          try clear c14b1
          try clear p2
          obtain ⟨kq, x53_10, rfl, HA, HJ10, HB⟩ := hcut
          cases kq with
          | zero => exact absurd HA.out (by simp [epactlaw23_PosixOrder.j1])
          | succ kj10 =>
            have H := HA.out
            clear HA
            simp only [epactlaw23_PosixOrder.j1] at H
            by_cases c15 : x53_10 = true
            · subst c15
              have H1 : (some t424) = some r := by rw [if_pos rfl] at H; exact H
              clear H
              have H := H1
              clear H1
              obtain rfl := Option.some.inj H
              go_wp2
              go_ret
              exact ⟨by first | rfl | (simp [errW_none, errW_some] <;> rfl) | (simp [*, errW_none, errW_some] <;> rfl), by repeat (first | (with_reducible first | exact HB.out | apply below_alloc | apply pw_below_drewN | apply below_drew1) | exact HB.out)⟩
            · replace c15 := Bool.eq_false_iff.mpr c15
              subst c15
              have H1 : ((scale_Utc.f kj10 l0 (wrap64 (a1 + 1))).bind fun bt429 => ((scale_Utc.f kj10 l0 a1).bind fun bt432 => ((scale_Length.f kj10 l0 bt432.1).bind fun bt435 => ((posix_Twice.f kj10 l0 t425).bind fun bt437 => (if bt432.2.1 = 86400 then (if t424 = true then (if t427 = (wrap64 (t425 + 1)) then (if bt437.1 = true then (some (bt437.2 == 0)) else (none)) else (none)) else (none)) else (if bt429.2.1 = 86400 then (if bt435.1 = 86399 then (if bt432.2.1 = 86398 then (if t424 = true then (if t427 = (wrap64 (t425 + 2)) then (if (bt437.1 == (bt429.2.1 == 86400)) = true then (some (bt437.2 == 0)) else (none)) else (none)) else (none)) else (if t424 = true then (if t427 = (wrap64 (t425 + 0)) then (if (bt437.1 == (bt429.2.1 == 86400)) = true then (some (bt437.2 == 0)) else (none)) else (none)) else (none))) else (if t424 = true then (if t427 = (wrap64 (t425 + 0)) then (if (bt437.1 == (bt429.2.1 == 86400)) = true then (some (bt437.2 == 0)) else (none)) else (none)) else (none))) else (if bt435.1 = 86399 then (if bt432.2.1 = 86398 then (if t424 = true then (if t427 = (wrap64 (t425 + 2)) then (if (bt437.1 == (bt429.2.1 == 86400)) = true then (some (bt437.2 == 0)) else (none)) else (none)) else (none)) else (if t424 = true then (if t427 = (wrap64 (t425 + 1)) then (if (bt437.1 == (bt429.2.1 == 86400)) = true then (some (bt437.2 == 0)) else (none)) else (none)) else (none))) else (if t424 = true then (if t427 = (wrap64 (t425 + 1)) then (if (bt437.1 == (bt429.2.1 == 86400)) = true then (some (bt437.2 == 0)) else (none)) else (none)) else (none))))))))) = some r := by rw [if_neg (show ¬ (false = true) by decide)] at H; exact H
              clear H
              have H := H1
              clear H1
              replace H := Option.bind_eq_some_iff.mp H
              obtain ⟨⟨t429, t430, t431⟩, A160, H⟩ := H
              replace H : ((scale_Utc.f kj10 l0 a1).bind fun bt432 => ((scale_Length.f kj10 l0 bt432.1).bind fun bt435 => ((posix_Twice.f kj10 l0 t425).bind fun bt437 => (if bt432.2.1 = 86400 then (if t424 = true then (if t427 = (wrap64 (t425 + 1)) then (if bt437.1 = true then (some (bt437.2 == 0)) else (none)) else (none)) else (none)) else (if t430 = 86400 then (if bt435.1 = 86399 then (if bt432.2.1 = 86398 then (if t424 = true then (if t427 = (wrap64 (t425 + 2)) then (if (bt437.1 == (t430 == 86400)) = true then (some (bt437.2 == 0)) else (none)) else (none)) else (none)) else (if t424 = true then (if t427 = (wrap64 (t425 + 0)) then (if (bt437.1 == (t430 == 86400)) = true then (some (bt437.2 == 0)) else (none)) else (none)) else (none))) else (if t424 = true then (if t427 = (wrap64 (t425 + 0)) then (if (bt437.1 == (t430 == 86400)) = true then (some (bt437.2 == 0)) else (none)) else (none)) else (none))) else (if bt435.1 = 86399 then (if bt432.2.1 = 86398 then (if t424 = true then (if t427 = (wrap64 (t425 + 2)) then (if (bt437.1 == (t430 == 86400)) = true then (some (bt437.2 == 0)) else (none)) else (none)) else (none)) else (if t424 = true then (if t427 = (wrap64 (t425 + 1)) then (if (bt437.1 == (t430 == 86400)) = true then (some (bt437.2 == 0)) else (none)) else (none)) else (none))) else (if t424 = true then (if t427 = (wrap64 (t425 + 1)) then (if (bt437.1 == (t430 == 86400)) = true then (some (bt437.2 == 0)) else (none)) else (none)) else (none)))))))) = some r := H
              have A16 := Aside0.mk A160
              clear A160
              replace H := Option.bind_eq_some_iff.mp H
              obtain ⟨⟨t432, t433, t434⟩, A170, H⟩ := H
              replace H : ((scale_Length.f kj10 l0 t432).bind fun bt435 => ((posix_Twice.f kj10 l0 t425).bind fun bt437 => (if t433 = 86400 then (if t424 = true then (if t427 = (wrap64 (t425 + 1)) then (if bt437.1 = true then (some (bt437.2 == 0)) else (none)) else (none)) else (none)) else (if t430 = 86400 then (if bt435.1 = 86399 then (if t433 = 86398 then (if t424 = true then (if t427 = (wrap64 (t425 + 2)) then (if (bt437.1 == (t430 == 86400)) = true then (some (bt437.2 == 0)) else (none)) else (none)) else (none)) else (if t424 = true then (if t427 = (wrap64 (t425 + 0)) then (if (bt437.1 == (t430 == 86400)) = true then (some (bt437.2 == 0)) else (none)) else (none)) else (none))) else (if t424 = true then (if t427 = (wrap64 (t425 + 0)) then (if (bt437.1 == (t430 == 86400)) = true then (some (bt437.2 == 0)) else (none)) else (none)) else (none))) else (if bt435.1 = 86399 then (if t433 = 86398 then (if t424 = true then (if t427 = (wrap64 (t425 + 2)) then (if (bt437.1 == (t430 == 86400)) = true then (some (bt437.2 == 0)) else (none)) else (none)) else (none)) else (if t424 = true then (if t427 = (wrap64 (t425 + 1)) then (if (bt437.1 == (t430 == 86400)) = true then (some (bt437.2 == 0)) else (none)) else (none)) else (none))) else (if t424 = true then (if t427 = (wrap64 (t425 + 1)) then (if (bt437.1 == (t430 == 86400)) = true then (some (bt437.2 == 0)) else (none)) else (none)) else (none))))))) = some r := H
              have A17 := Aside0.mk A170
              clear A170
              replace H := Option.bind_eq_some_iff.mp H
              obtain ⟨⟨t435, t436⟩, A180, H⟩ := H
              replace H : ((posix_Twice.f kj10 l0 t425).bind fun bt437 => (if t433 = 86400 then (if t424 = true then (if t427 = (wrap64 (t425 + 1)) then (if bt437.1 = true then (some (bt437.2 == 0)) else (none)) else (none)) else (none)) else (if t430 = 86400 then (if t435 = 86399 then (if t433 = 86398 then (if t424 = true then (if t427 = (wrap64 (t425 + 2)) then (if (bt437.1 == (t430 == 86400)) = true then (some (bt437.2 == 0)) else (none)) else (none)) else (none)) else (if t424 = true then (if t427 = (wrap64 (t425 + 0)) then (if (bt437.1 == (t430 == 86400)) = true then (some (bt437.2 == 0)) else (none)) else (none)) else (none))) else (if t424 = true then (if t427 = (wrap64 (t425 + 0)) then (if (bt437.1 == (t430 == 86400)) = true then (some (bt437.2 == 0)) else (none)) else (none)) else (none))) else (if t435 = 86399 then (if t433 = 86398 then (if t424 = true then (if t427 = (wrap64 (t425 + 2)) then (if (bt437.1 == (t430 == 86400)) = true then (some (bt437.2 == 0)) else (none)) else (none)) else (none)) else (if t424 = true then (if t427 = (wrap64 (t425 + 1)) then (if (bt437.1 == (t430 == 86400)) = true then (some (bt437.2 == 0)) else (none)) else (none)) else (none))) else (if t424 = true then (if t427 = (wrap64 (t425 + 1)) then (if (bt437.1 == (t430 == 86400)) = true then (some (bt437.2 == 0)) else (none)) else (none)) else (none)))))) = some r := H
              have A18 := Aside0.mk A180
              clear A180
              replace H := Option.bind_eq_some_iff.mp H
              obtain ⟨⟨t437, t438⟩, A190, H⟩ := H
              replace H : (if t433 = 86400 then (if t424 = true then (if t427 = (wrap64 (t425 + 1)) then (if t437 = true then (some (t438 == 0)) else (none)) else (none)) else (none)) else (if t430 = 86400 then (if t435 = 86399 then (if t433 = 86398 then (if t424 = true then (if t427 = (wrap64 (t425 + 2)) then (if (t437 == (t430 == 86400)) = true then (some (t438 == 0)) else (none)) else (none)) else (none)) else (if t424 = true then (if t427 = (wrap64 (t425 + 0)) then (if (t437 == (t430 == 86400)) = true then (some (t438 == 0)) else (none)) else (none)) else (none))) else (if t424 = true then (if t427 = (wrap64 (t425 + 0)) then (if (t437 == (t430 == 86400)) = true then (some (t438 == 0)) else (none)) else (none)) else (none))) else (if t435 = 86399 then (if t433 = 86398 then (if t424 = true then (if t427 = (wrap64 (t425 + 2)) then (if (t437 == (t430 == 86400)) = true then (some (t438 == 0)) else (none)) else (none)) else (none)) else (if t424 = true then (if t427 = (wrap64 (t425 + 1)) then (if (t437 == (t430 == 86400)) = true then (some (t438 == 0)) else (none)) else (none)) else (none))) else (if t424 = true then (if t427 = (wrap64 (t425 + 1)) then (if (t437 == (t430 == 86400)) = true then (some (t438 == 0)) else (none)) else (none)) else (none))))) = some r := H
              have A19 := Aside0.mk A190
              clear A190
              by_cases c20 : t433 = 86400
              · rw [if_pos c20] at H
                have c20b0 : (t433 == 86400) = true := beq_iff_eq.mpr c20
                have c20b1 : (t433 != 86400) = false := bne_eq_false_iff_eq.mpr c20
                clear c20
                by_cases c21 : t424 = true
                · subst c21
                  have H1 : (if t427 = (wrap64 (t425 + 1)) then (if t437 = true then (some (t438 == 0)) else (none)) else (none)) = some r := by rw [if_pos rfl] at H; exact H
                  clear H
                  have H := H1
                  clear H1
                  by_cases c22 : t427 = (wrap64 (t425 + 1))
                  · rw [if_pos c22] at H
                    have c22b0 : (t427 == (wrap64 (t425 + 1))) = true := beq_iff_eq.mpr c22
                    have c22b1 : (t427 != (wrap64 (t425 + 1))) = false := bne_eq_false_iff_eq.mpr c22
                    clear c22
                    by_cases c23 : t437 = true
                    · subst c23
                      have H1 : (some (t438 == 0)) = some r := by rw [if_pos rfl] at H; exact H
                      clear H
                      have H := H1
                      clear H1
                      obtain rfl := Option.some.inj H
                      go_wp2_with (first | ((with_reducible refine gate_callee (f := 22) rfl ?_); refine goesL_ (some 59) rfl rfl Try.func22 (by kernel_rfl) rfl #[.slice A0 l0.length c0, .int .i64 (wrap64 (a1 + 1))] rfl (by (try simp only [List.map_toArray, List.map_cons, List.map_nil]); first | done | rfl | (simp only [List.length_drop, List.length_take]; rfl)) ?_; (with_reducible refine (scale_Utc.calls kj10 _ _ l0 (wrap64 (a1 + 1)) t429 t430 t431 _ ?side1 ?side2 A16.out).mono ?_); (case side1 => repeat (first | exact (Kd.C_below HR0.out HB.out) | (with_reducible refine Kd.C_alloc ?_ _) | (with_reducible refine Kd.C_drewN ?_ _) | (with_reducible refine Kd.C_drew ?_))); (case side2 => exact HC0.out); rintro e w24 ⟨rfl, hb⟩; refine ⟨_, rfl, ?_⟩; have n0_ := Aside0.mk (below_step (by repeat (first | (with_reducible first | exact HB.out | apply below_alloc | apply pw_below_drewN | apply below_drew1) | exact HB.out)) hb); clear HB; have HB := n0_; clear n0_; (try clear hb); (try clear hb2); (try clear hk); (try clear hi)) | ((with_reducible refine gate_callee (f := 22) rfl ?_); refine goesL_ (some 66) rfl rfl Try.func22 (by kernel_rfl) rfl #[.slice A0 l0.length c0, .int .i64 a1] rfl (by (try simp only [List.map_toArray, List.map_cons, List.map_nil]); first | done | rfl | (simp only [List.length_drop, List.length_take]; rfl)) ?_; (with_reducible refine (scale_Utc.calls kj10 _ _ l0 a1 t432 t433 t434 _ ?side1 ?side2 A17.out).mono ?_); (case side1 => repeat (first | exact (Kd.C_below HR0.out HB.out) | (with_reducible refine Kd.C_alloc ?_ _) | (with_reducible refine Kd.C_drewN ?_ _) | (with_reducible refine Kd.C_drew ?_))); (case side2 => exact HC0.out); rintro e w25 ⟨rfl, hb⟩; refine ⟨_, rfl, ?_⟩; have n0_ := Aside0.mk (below_step (by repeat (first | (with_reducible first | exact HB.out | apply below_alloc | apply pw_below_drewN | apply below_drew1) | exact HB.out)) hb); clear HB; have HB := n0_; clear n0_; (try clear hb); (try clear hb2); (try clear hk); (try clear hi)) | ((with_reducible refine gate_callee (f := 21) rfl ?_); refine goesL_ (some 73) rfl rfl Try.func21 (by kernel_rfl) rfl #[.slice A0 l0.length c0, .int .i64 t432] rfl (by (try simp only [List.map_toArray, List.map_cons, List.map_nil]); first | done | rfl | (simp only [List.length_drop, List.length_take]; rfl)) ?_; (with_reducible refine (scale_Length.calls kj10 _ _ l0 t432 t435 t436 _ ?side1 ?side2 A18.out).mono ?_); (case side1 => repeat (first | exact (Kd.C_below HR0.out HB.out) | (with_reducible refine Kd.C_alloc ?_ _) | (with_reducible refine Kd.C_drewN ?_ _) | (with_reducible refine Kd.C_drew ?_))); (case side2 => exact HC0.out); rintro e w26 ⟨rfl, hb⟩; refine ⟨_, rfl, ?_⟩; have n0_ := Aside0.mk (below_step (by repeat (first | (with_reducible first | exact HB.out | apply below_alloc | apply pw_below_drewN | apply below_drew1) | exact HB.out)) hb); clear HB; have HB := n0_; clear n0_; (try clear hb); (try clear hb2); (try clear hk); (try clear hi)) | ((with_reducible refine gate_callee (f := 19) rfl ?_); refine goesL_ (some 81) rfl rfl Try.func19 (by kernel_rfl) rfl #[.slice A0 l0.length c0, .int .i64 t425] rfl (by (try simp only [List.map_toArray, List.map_cons, List.map_nil]); first | done | rfl | (simp only [List.length_drop, List.length_take]; rfl)) ?_; (with_reducible refine (posix_Twice.calls kj10 _ _ l0 t425 true t438 _ ?side1 ?side2 A19.out).mono ?_); (case side1 => repeat (first | exact (Kd.C_below HR0.out HB.out) | (with_reducible refine Kd.C_alloc ?_ _) | (with_reducible refine Kd.C_drewN ?_ _) | (with_reducible refine Kd.C_drew ?_))); (case side2 => exact HC0.out); rintro e w27 ⟨rfl, hb⟩; refine ⟨_, rfl, ?_⟩; have n0_ := Aside0.mk (below_step (by repeat (first | (with_reducible first | exact HB.out | apply below_alloc | apply pw_below_drewN | apply below_drew1) | exact HB.out)) hb); clear HB; have HB := n0_; clear n0_; (try clear hb); (try clear hb2); (try clear hk); (try clear hi)))
                      go_ret
                      exact ⟨by first | rfl | (simp [errW_none, errW_some] <;> rfl) | (simp [*, errW_none, errW_some] <;> rfl), by repeat (first | (with_reducible first | exact HB.out | apply below_alloc | apply pw_below_drewN | apply below_drew1) | exact HB.out)⟩
                    · replace c23 := Bool.eq_false_iff.mpr c23
                      subst c23
                      have H1 : (none) = some r := by rw [if_neg (show ¬ (false = true) by decide)] at H; exact H
                      clear H
                      have H := H1
                      clear H1
                      exact absurd H (by simp)
                  · rw [if_neg c22] at H
                    exact absurd H (by simp)
                · replace c21 := Bool.eq_false_iff.mpr c21
                  subst c21
                  have H1 : (none) = some r := by rw [if_neg (show ¬ (false = true) by decide)] at H; exact H
                  clear H
                  have H := H1
                  clear H1
                  exact absurd H (by simp)
              · rw [if_neg c20] at H
                have c20b0 : (t433 == 86400) = false := beq_eq_false_iff_ne.mpr c20
                have c20b1 : (t433 != 86400) = true := bne_iff_ne.mpr c20
                by_cases c28 : t430 = 86400
                · rw [if_pos c28] at H
                  have c28b0 : (t430 == 86400) = true := beq_iff_eq.mpr c28
                  have c28b1 : (t430 != 86400) = false := bne_eq_false_iff_eq.mpr c28
                  clear c28
                  by_cases c29 : t435 = 86399
                  · rw [if_pos c29] at H
                    have c29b0 : (t435 == 86399) = true := beq_iff_eq.mpr c29
                    have c29b1 : (t435 != 86399) = false := bne_eq_false_iff_eq.mpr c29
                    clear c29
                    by_cases c30 : t433 = 86398
                    · rw [if_pos c30] at H
                      have c30b0 : (t433 == 86398) = true := beq_iff_eq.mpr c30
                      have c30b1 : (t433 != 86398) = false := bne_eq_false_iff_eq.mpr c30
                      clear c30
                      by_cases c31 : t424 = true
                      · subst c31
                        have H1 : (if t427 = (wrap64 (t425 + 2)) then (if (t437 == (t430 == 86400)) = true then (some (t438 == 0)) else (none)) else (none)) = some r := by rw [if_pos rfl] at H; exact H
                        clear H
                        have H := H1
                        clear H1
                        by_cases c32 : t427 = (wrap64 (t425 + 2))
                        · rw [if_pos c32] at H
                          have c32b0 : (t427 == (wrap64 (t425 + 2))) = true := beq_iff_eq.mpr c32
                          have c32b1 : (t427 != (wrap64 (t425 + 2))) = false := bne_eq_false_iff_eq.mpr c32
                          clear c32
                          by_cases c33 : (t437 == (t430 == 86400)) = true
                          · rw [if_pos c33] at H
                            have c33b0 : (t437 == (t430 == 86400)) = true := c33
                            have c33b0e : t437 = (t430 == 86400) := beq_iff_eq.mp c33b0
                            (try (have c33b1 : decide (t437 = (t430 == 86400)) = true := by first | (simp; done) | (simp at c33; done) | simpa using c33))
                            (try (have c33b2 : (t437 == (t430 == 86400)) = true := by first | (simp; done) | (simp at c33; done) | simpa using c33))
                            clear c33
                            obtain rfl := Option.some.inj H
                            go_wp2_with (first | ((with_reducible refine gate_callee (f := 22) rfl ?_); refine goesL_ (some 59) rfl rfl Try.func22 (by kernel_rfl) rfl #[.slice A0 l0.length c0, .int .i64 (wrap64 (a1 + 1))] rfl (by (try simp only [List.map_toArray, List.map_cons, List.map_nil]); first | done | rfl | (simp only [List.length_drop, List.length_take]; rfl)) ?_; (with_reducible refine (scale_Utc.calls kj10 _ _ l0 (wrap64 (a1 + 1)) t429 t430 t431 _ ?side1 ?side2 A16.out).mono ?_); (case side1 => repeat (first | exact (Kd.C_below HR0.out HB.out) | (with_reducible refine Kd.C_alloc ?_ _) | (with_reducible refine Kd.C_drewN ?_ _) | (with_reducible refine Kd.C_drew ?_))); (case side2 => exact HC0.out); rintro e w34 ⟨rfl, hb⟩; refine ⟨_, rfl, ?_⟩; have n0_ := Aside0.mk (below_step (by repeat (first | (with_reducible first | exact HB.out | apply below_alloc | apply pw_below_drewN | apply below_drew1) | exact HB.out)) hb); clear HB; have HB := n0_; clear n0_; (try clear hb); (try clear hb2); (try clear hk); (try clear hi)) | ((with_reducible refine gate_callee (f := 22) rfl ?_); refine goesL_ (some 66) rfl rfl Try.func22 (by kernel_rfl) rfl #[.slice A0 l0.length c0, .int .i64 a1] rfl (by (try simp only [List.map_toArray, List.map_cons, List.map_nil]); first | done | rfl | (simp only [List.length_drop, List.length_take]; rfl)) ?_; (with_reducible refine (scale_Utc.calls kj10 _ _ l0 a1 t432 t433 t434 _ ?side1 ?side2 A17.out).mono ?_); (case side1 => repeat (first | exact (Kd.C_below HR0.out HB.out) | (with_reducible refine Kd.C_alloc ?_ _) | (with_reducible refine Kd.C_drewN ?_ _) | (with_reducible refine Kd.C_drew ?_))); (case side2 => exact HC0.out); rintro e w35 ⟨rfl, hb⟩; refine ⟨_, rfl, ?_⟩; have n0_ := Aside0.mk (below_step (by repeat (first | (with_reducible first | exact HB.out | apply below_alloc | apply pw_below_drewN | apply below_drew1) | exact HB.out)) hb); clear HB; have HB := n0_; clear n0_; (try clear hb); (try clear hb2); (try clear hk); (try clear hi)) | ((with_reducible refine gate_callee (f := 21) rfl ?_); refine goesL_ (some 73) rfl rfl Try.func21 (by kernel_rfl) rfl #[.slice A0 l0.length c0, .int .i64 t432] rfl (by (try simp only [List.map_toArray, List.map_cons, List.map_nil]); first | done | rfl | (simp only [List.length_drop, List.length_take]; rfl)) ?_; (with_reducible refine (scale_Length.calls kj10 _ _ l0 t432 t435 t436 _ ?side1 ?side2 A18.out).mono ?_); (case side1 => repeat (first | exact (Kd.C_below HR0.out HB.out) | (with_reducible refine Kd.C_alloc ?_ _) | (with_reducible refine Kd.C_drewN ?_ _) | (with_reducible refine Kd.C_drew ?_))); (case side2 => exact HC0.out); rintro e w36 ⟨rfl, hb⟩; refine ⟨_, rfl, ?_⟩; have n0_ := Aside0.mk (below_step (by repeat (first | (with_reducible first | exact HB.out | apply below_alloc | apply pw_below_drewN | apply below_drew1) | exact HB.out)) hb); clear HB; have HB := n0_; clear n0_; (try clear hb); (try clear hb2); (try clear hk); (try clear hi)) | ((with_reducible refine gate_callee (f := 19) rfl ?_); refine goesL_ (some 81) rfl rfl Try.func19 (by kernel_rfl) rfl #[.slice A0 l0.length c0, .int .i64 t425] rfl (by (try simp only [List.map_toArray, List.map_cons, List.map_nil]); first | done | rfl | (simp only [List.length_drop, List.length_take]; rfl)) ?_; (with_reducible refine (posix_Twice.calls kj10 _ _ l0 t425 t437 t438 _ ?side1 ?side2 A19.out).mono ?_); (case side1 => repeat (first | exact (Kd.C_below HR0.out HB.out) | (with_reducible refine Kd.C_alloc ?_ _) | (with_reducible refine Kd.C_drewN ?_ _) | (with_reducible refine Kd.C_drew ?_))); (case side2 => exact HC0.out); rintro e w37 ⟨rfl, hb⟩; refine ⟨_, rfl, ?_⟩; have n0_ := Aside0.mk (below_step (by repeat (first | (with_reducible first | exact HB.out | apply below_alloc | apply pw_below_drewN | apply below_drew1) | exact HB.out)) hb); clear HB; have HB := n0_; clear n0_; (try clear hb); (try clear hb2); (try clear hk); (try clear hi)))
                            go_ret
                            exact ⟨by first | rfl | (simp [errW_none, errW_some] <;> rfl) | (simp [*, errW_none, errW_some] <;> rfl), by repeat (first | (with_reducible first | exact HB.out | apply below_alloc | apply pw_below_drewN | apply below_drew1) | exact HB.out)⟩
                          · rw [if_neg c33] at H
                            exact absurd H (by simp)
                        · rw [if_neg c32] at H
                          exact absurd H (by simp)
                      · replace c31 := Bool.eq_false_iff.mpr c31
                        subst c31
                        have H1 : (none) = some r := by rw [if_neg (show ¬ (false = true) by decide)] at H; exact H
                        clear H
                        have H := H1
                        clear H1
                        exact absurd H (by simp)
                    · rw [if_neg c30] at H
                      have c30b0 : (t433 == 86398) = false := beq_eq_false_iff_ne.mpr c30
                      have c30b1 : (t433 != 86398) = true := bne_iff_ne.mpr c30
                      by_cases c38 : t424 = true
                      · subst c38
                        have H1 : (if t427 = (wrap64 (t425 + 0)) then (if (t437 == (t430 == 86400)) = true then (some (t438 == 0)) else (none)) else (none)) = some r := by rw [if_pos rfl] at H; exact H
                        clear H
                        have H := H1
                        clear H1
                        by_cases c39 : t427 = (wrap64 (t425 + 0))
                        · rw [if_pos c39] at H
                          have c39b0 : (t427 == (wrap64 (t425 + 0))) = true := beq_iff_eq.mpr c39
                          have c39b0z : (t427 == (wrap64 t425)) = true := by simpa only [Int.add_zero] using c39b0
                          have c39b1 : (t427 != (wrap64 (t425 + 0))) = false := bne_eq_false_iff_eq.mpr c39
                          have c39b1z : (t427 != (wrap64 t425)) = false := by simpa only [Int.add_zero] using c39b1
                          clear c39
                          by_cases c40 : (t437 == (t430 == 86400)) = true
                          · rw [if_pos c40] at H
                            have c40b0 : (t437 == (t430 == 86400)) = true := c40
                            have c40b0e : t437 = (t430 == 86400) := beq_iff_eq.mp c40b0
                            (try (have c40b1 : decide (t437 = (t430 == 86400)) = true := by first | (simp; done) | (simp at c40; done) | simpa using c40))
                            (try (have c40b2 : (t437 == (t430 == 86400)) = true := by first | (simp; done) | (simp at c40; done) | simpa using c40))
                            clear c40
                            obtain rfl := Option.some.inj H
                            go_wp2_with (first | ((with_reducible refine gate_callee (f := 22) rfl ?_); refine goesL_ (some 59) rfl rfl Try.func22 (by kernel_rfl) rfl #[.slice A0 l0.length c0, .int .i64 (wrap64 (a1 + 1))] rfl (by (try simp only [List.map_toArray, List.map_cons, List.map_nil]); first | done | rfl | (simp only [List.length_drop, List.length_take]; rfl)) ?_; (with_reducible refine (scale_Utc.calls kj10 _ _ l0 (wrap64 (a1 + 1)) t429 t430 t431 _ ?side1 ?side2 A16.out).mono ?_); (case side1 => repeat (first | exact (Kd.C_below HR0.out HB.out) | (with_reducible refine Kd.C_alloc ?_ _) | (with_reducible refine Kd.C_drewN ?_ _) | (with_reducible refine Kd.C_drew ?_))); (case side2 => exact HC0.out); rintro e w41 ⟨rfl, hb⟩; refine ⟨_, rfl, ?_⟩; have n0_ := Aside0.mk (below_step (by repeat (first | (with_reducible first | exact HB.out | apply below_alloc | apply pw_below_drewN | apply below_drew1) | exact HB.out)) hb); clear HB; have HB := n0_; clear n0_; (try clear hb); (try clear hb2); (try clear hk); (try clear hi)) | ((with_reducible refine gate_callee (f := 22) rfl ?_); refine goesL_ (some 66) rfl rfl Try.func22 (by kernel_rfl) rfl #[.slice A0 l0.length c0, .int .i64 a1] rfl (by (try simp only [List.map_toArray, List.map_cons, List.map_nil]); first | done | rfl | (simp only [List.length_drop, List.length_take]; rfl)) ?_; (with_reducible refine (scale_Utc.calls kj10 _ _ l0 a1 t432 t433 t434 _ ?side1 ?side2 A17.out).mono ?_); (case side1 => repeat (first | exact (Kd.C_below HR0.out HB.out) | (with_reducible refine Kd.C_alloc ?_ _) | (with_reducible refine Kd.C_drewN ?_ _) | (with_reducible refine Kd.C_drew ?_))); (case side2 => exact HC0.out); rintro e w42 ⟨rfl, hb⟩; refine ⟨_, rfl, ?_⟩; have n0_ := Aside0.mk (below_step (by repeat (first | (with_reducible first | exact HB.out | apply below_alloc | apply pw_below_drewN | apply below_drew1) | exact HB.out)) hb); clear HB; have HB := n0_; clear n0_; (try clear hb); (try clear hb2); (try clear hk); (try clear hi)) | ((with_reducible refine gate_callee (f := 21) rfl ?_); refine goesL_ (some 73) rfl rfl Try.func21 (by kernel_rfl) rfl #[.slice A0 l0.length c0, .int .i64 t432] rfl (by (try simp only [List.map_toArray, List.map_cons, List.map_nil]); first | done | rfl | (simp only [List.length_drop, List.length_take]; rfl)) ?_; (with_reducible refine (scale_Length.calls kj10 _ _ l0 t432 t435 t436 _ ?side1 ?side2 A18.out).mono ?_); (case side1 => repeat (first | exact (Kd.C_below HR0.out HB.out) | (with_reducible refine Kd.C_alloc ?_ _) | (with_reducible refine Kd.C_drewN ?_ _) | (with_reducible refine Kd.C_drew ?_))); (case side2 => exact HC0.out); rintro e w43 ⟨rfl, hb⟩; refine ⟨_, rfl, ?_⟩; have n0_ := Aside0.mk (below_step (by repeat (first | (with_reducible first | exact HB.out | apply below_alloc | apply pw_below_drewN | apply below_drew1) | exact HB.out)) hb); clear HB; have HB := n0_; clear n0_; (try clear hb); (try clear hb2); (try clear hk); (try clear hi)) | ((with_reducible refine gate_callee (f := 19) rfl ?_); refine goesL_ (some 81) rfl rfl Try.func19 (by kernel_rfl) rfl #[.slice A0 l0.length c0, .int .i64 t425] rfl (by (try simp only [List.map_toArray, List.map_cons, List.map_nil]); first | done | rfl | (simp only [List.length_drop, List.length_take]; rfl)) ?_; (with_reducible refine (posix_Twice.calls kj10 _ _ l0 t425 t437 t438 _ ?side1 ?side2 A19.out).mono ?_); (case side1 => repeat (first | exact (Kd.C_below HR0.out HB.out) | (with_reducible refine Kd.C_alloc ?_ _) | (with_reducible refine Kd.C_drewN ?_ _) | (with_reducible refine Kd.C_drew ?_))); (case side2 => exact HC0.out); rintro e w44 ⟨rfl, hb⟩; refine ⟨_, rfl, ?_⟩; have n0_ := Aside0.mk (below_step (by repeat (first | (with_reducible first | exact HB.out | apply below_alloc | apply pw_below_drewN | apply below_drew1) | exact HB.out)) hb); clear HB; have HB := n0_; clear n0_; (try clear hb); (try clear hb2); (try clear hk); (try clear hi)))
                            go_ret
                            exact ⟨by first | rfl | (simp [errW_none, errW_some] <;> rfl) | (simp [*, errW_none, errW_some] <;> rfl), by repeat (first | (with_reducible first | exact HB.out | apply below_alloc | apply pw_below_drewN | apply below_drew1) | exact HB.out)⟩
                          · rw [if_neg c40] at H
                            exact absurd H (by simp)
                        · rw [if_neg c39] at H
                          exact absurd H (by simp)
                      · replace c38 := Bool.eq_false_iff.mpr c38
                        subst c38
                        have H1 : (none) = some r := by rw [if_neg (show ¬ (false = true) by decide)] at H; exact H
                        clear H
                        have H := H1
                        clear H1
                        exact absurd H (by simp)
                  · rw [if_neg c29] at H
                    have c29b0 : (t435 == 86399) = false := beq_eq_false_iff_ne.mpr c29
                    have c29b1 : (t435 != 86399) = true := bne_iff_ne.mpr c29
                    by_cases c45 : t424 = true
                    · subst c45
                      have H1 : (if t427 = (wrap64 (t425 + 0)) then (if (t437 == (t430 == 86400)) = true then (some (t438 == 0)) else (none)) else (none)) = some r := by rw [if_pos rfl] at H; exact H
                      clear H
                      have H := H1
                      clear H1
                      by_cases c46 : t427 = (wrap64 (t425 + 0))
                      · rw [if_pos c46] at H
                        have c46b0 : (t427 == (wrap64 (t425 + 0))) = true := beq_iff_eq.mpr c46
                        have c46b0z : (t427 == (wrap64 t425)) = true := by simpa only [Int.add_zero] using c46b0
                        have c46b1 : (t427 != (wrap64 (t425 + 0))) = false := bne_eq_false_iff_eq.mpr c46
                        have c46b1z : (t427 != (wrap64 t425)) = false := by simpa only [Int.add_zero] using c46b1
                        clear c46
                        by_cases c47 : (t437 == (t430 == 86400)) = true
                        · rw [if_pos c47] at H
                          have c47b0 : (t437 == (t430 == 86400)) = true := c47
                          have c47b0e : t437 = (t430 == 86400) := beq_iff_eq.mp c47b0
                          (try (have c47b1 : decide (t437 = (t430 == 86400)) = true := by first | (simp; done) | (simp at c47; done) | simpa using c47))
                          (try (have c47b2 : (t437 == (t430 == 86400)) = true := by first | (simp; done) | (simp at c47; done) | simpa using c47))
                          clear c47
                          obtain rfl := Option.some.inj H
                          go_wp2_with (first | ((with_reducible refine gate_callee (f := 22) rfl ?_); refine goesL_ (some 59) rfl rfl Try.func22 (by kernel_rfl) rfl #[.slice A0 l0.length c0, .int .i64 (wrap64 (a1 + 1))] rfl (by (try simp only [List.map_toArray, List.map_cons, List.map_nil]); first | done | rfl | (simp only [List.length_drop, List.length_take]; rfl)) ?_; (with_reducible refine (scale_Utc.calls kj10 _ _ l0 (wrap64 (a1 + 1)) t429 t430 t431 _ ?side1 ?side2 A16.out).mono ?_); (case side1 => repeat (first | exact (Kd.C_below HR0.out HB.out) | (with_reducible refine Kd.C_alloc ?_ _) | (with_reducible refine Kd.C_drewN ?_ _) | (with_reducible refine Kd.C_drew ?_))); (case side2 => exact HC0.out); rintro e w48 ⟨rfl, hb⟩; refine ⟨_, rfl, ?_⟩; have n0_ := Aside0.mk (below_step (by repeat (first | (with_reducible first | exact HB.out | apply below_alloc | apply pw_below_drewN | apply below_drew1) | exact HB.out)) hb); clear HB; have HB := n0_; clear n0_; (try clear hb); (try clear hb2); (try clear hk); (try clear hi)) | ((with_reducible refine gate_callee (f := 22) rfl ?_); refine goesL_ (some 66) rfl rfl Try.func22 (by kernel_rfl) rfl #[.slice A0 l0.length c0, .int .i64 a1] rfl (by (try simp only [List.map_toArray, List.map_cons, List.map_nil]); first | done | rfl | (simp only [List.length_drop, List.length_take]; rfl)) ?_; (with_reducible refine (scale_Utc.calls kj10 _ _ l0 a1 t432 t433 t434 _ ?side1 ?side2 A17.out).mono ?_); (case side1 => repeat (first | exact (Kd.C_below HR0.out HB.out) | (with_reducible refine Kd.C_alloc ?_ _) | (with_reducible refine Kd.C_drewN ?_ _) | (with_reducible refine Kd.C_drew ?_))); (case side2 => exact HC0.out); rintro e w49 ⟨rfl, hb⟩; refine ⟨_, rfl, ?_⟩; have n0_ := Aside0.mk (below_step (by repeat (first | (with_reducible first | exact HB.out | apply below_alloc | apply pw_below_drewN | apply below_drew1) | exact HB.out)) hb); clear HB; have HB := n0_; clear n0_; (try clear hb); (try clear hb2); (try clear hk); (try clear hi)) | ((with_reducible refine gate_callee (f := 21) rfl ?_); refine goesL_ (some 73) rfl rfl Try.func21 (by kernel_rfl) rfl #[.slice A0 l0.length c0, .int .i64 t432] rfl (by (try simp only [List.map_toArray, List.map_cons, List.map_nil]); first | done | rfl | (simp only [List.length_drop, List.length_take]; rfl)) ?_; (with_reducible refine (scale_Length.calls kj10 _ _ l0 t432 t435 t436 _ ?side1 ?side2 A18.out).mono ?_); (case side1 => repeat (first | exact (Kd.C_below HR0.out HB.out) | (with_reducible refine Kd.C_alloc ?_ _) | (with_reducible refine Kd.C_drewN ?_ _) | (with_reducible refine Kd.C_drew ?_))); (case side2 => exact HC0.out); rintro e w50 ⟨rfl, hb⟩; refine ⟨_, rfl, ?_⟩; have n0_ := Aside0.mk (below_step (by repeat (first | (with_reducible first | exact HB.out | apply below_alloc | apply pw_below_drewN | apply below_drew1) | exact HB.out)) hb); clear HB; have HB := n0_; clear n0_; (try clear hb); (try clear hb2); (try clear hk); (try clear hi)) | ((with_reducible refine gate_callee (f := 19) rfl ?_); refine goesL_ (some 81) rfl rfl Try.func19 (by kernel_rfl) rfl #[.slice A0 l0.length c0, .int .i64 t425] rfl (by (try simp only [List.map_toArray, List.map_cons, List.map_nil]); first | done | rfl | (simp only [List.length_drop, List.length_take]; rfl)) ?_; (with_reducible refine (posix_Twice.calls kj10 _ _ l0 t425 t437 t438 _ ?side1 ?side2 A19.out).mono ?_); (case side1 => repeat (first | exact (Kd.C_below HR0.out HB.out) | (with_reducible refine Kd.C_alloc ?_ _) | (with_reducible refine Kd.C_drewN ?_ _) | (with_reducible refine Kd.C_drew ?_))); (case side2 => exact HC0.out); rintro e w51 ⟨rfl, hb⟩; refine ⟨_, rfl, ?_⟩; have n0_ := Aside0.mk (below_step (by repeat (first | (with_reducible first | exact HB.out | apply below_alloc | apply pw_below_drewN | apply below_drew1) | exact HB.out)) hb); clear HB; have HB := n0_; clear n0_; (try clear hb); (try clear hb2); (try clear hk); (try clear hi)))
                          go_ret
                          exact ⟨by first | rfl | (simp [errW_none, errW_some] <;> rfl) | (simp [*, errW_none, errW_some] <;> rfl), by repeat (first | (with_reducible first | exact HB.out | apply below_alloc | apply pw_below_drewN | apply below_drew1) | exact HB.out)⟩
                        · rw [if_neg c47] at H
                          exact absurd H (by simp)
                      · rw [if_neg c46] at H
                        exact absurd H (by simp)
                    · replace c45 := Bool.eq_false_iff.mpr c45
                      subst c45
                      have H1 : (none) = some r := by rw [if_neg (show ¬ (false = true) by decide)] at H; exact H
                      clear H
                      have H := H1
                      clear H1
                      exact absurd H (by simp)
                · rw [if_neg c28] at H
                  have c28b0 : (t430 == 86400) = false := beq_eq_false_iff_ne.mpr c28
                  have c28b1 : (t430 != 86400) = true := bne_iff_ne.mpr c28
                  by_cases c52 : t435 = 86399
                  · rw [if_pos c52] at H
                    have c52b0 : (t435 == 86399) = true := beq_iff_eq.mpr c52
                    have c52b1 : (t435 != 86399) = false := bne_eq_false_iff_eq.mpr c52
                    clear c52
                    by_cases c53 : t433 = 86398
                    · rw [if_pos c53] at H
                      have c53b0 : (t433 == 86398) = true := beq_iff_eq.mpr c53
                      have c53b1 : (t433 != 86398) = false := bne_eq_false_iff_eq.mpr c53
                      clear c53
                      by_cases c54 : t424 = true
                      · subst c54
                        have H1 : (if t427 = (wrap64 (t425 + 2)) then (if (t437 == (t430 == 86400)) = true then (some (t438 == 0)) else (none)) else (none)) = some r := by rw [if_pos rfl] at H; exact H
                        clear H
                        have H := H1
                        clear H1
                        by_cases c55 : t427 = (wrap64 (t425 + 2))
                        · rw [if_pos c55] at H
                          have c55b0 : (t427 == (wrap64 (t425 + 2))) = true := beq_iff_eq.mpr c55
                          have c55b1 : (t427 != (wrap64 (t425 + 2))) = false := bne_eq_false_iff_eq.mpr c55
                          clear c55
                          by_cases c56 : (t437 == (t430 == 86400)) = true
                          · rw [if_pos c56] at H
                            have c56b0 : (t437 == (t430 == 86400)) = true := c56
                            have c56b0e : t437 = (t430 == 86400) := beq_iff_eq.mp c56b0
                            (try (have c56b1 : decide (t437 = (t430 == 86400)) = true := by first | (simp; done) | (simp at c56; done) | simpa using c56))
                            (try (have c56b2 : (t437 == (t430 == 86400)) = true := by first | (simp; done) | (simp at c56; done) | simpa using c56))
                            clear c56
                            obtain rfl := Option.some.inj H
                            go_wp2_with (first | ((with_reducible refine gate_callee (f := 22) rfl ?_); refine goesL_ (some 59) rfl rfl Try.func22 (by kernel_rfl) rfl #[.slice A0 l0.length c0, .int .i64 (wrap64 (a1 + 1))] rfl (by (try simp only [List.map_toArray, List.map_cons, List.map_nil]); first | done | rfl | (simp only [List.length_drop, List.length_take]; rfl)) ?_; (with_reducible refine (scale_Utc.calls kj10 _ _ l0 (wrap64 (a1 + 1)) t429 t430 t431 _ ?side1 ?side2 A16.out).mono ?_); (case side1 => repeat (first | exact (Kd.C_below HR0.out HB.out) | (with_reducible refine Kd.C_alloc ?_ _) | (with_reducible refine Kd.C_drewN ?_ _) | (with_reducible refine Kd.C_drew ?_))); (case side2 => exact HC0.out); rintro e w57 ⟨rfl, hb⟩; refine ⟨_, rfl, ?_⟩; have n0_ := Aside0.mk (below_step (by repeat (first | (with_reducible first | exact HB.out | apply below_alloc | apply pw_below_drewN | apply below_drew1) | exact HB.out)) hb); clear HB; have HB := n0_; clear n0_; (try clear hb); (try clear hb2); (try clear hk); (try clear hi)) | ((with_reducible refine gate_callee (f := 22) rfl ?_); refine goesL_ (some 66) rfl rfl Try.func22 (by kernel_rfl) rfl #[.slice A0 l0.length c0, .int .i64 a1] rfl (by (try simp only [List.map_toArray, List.map_cons, List.map_nil]); first | done | rfl | (simp only [List.length_drop, List.length_take]; rfl)) ?_; (with_reducible refine (scale_Utc.calls kj10 _ _ l0 a1 t432 t433 t434 _ ?side1 ?side2 A17.out).mono ?_); (case side1 => repeat (first | exact (Kd.C_below HR0.out HB.out) | (with_reducible refine Kd.C_alloc ?_ _) | (with_reducible refine Kd.C_drewN ?_ _) | (with_reducible refine Kd.C_drew ?_))); (case side2 => exact HC0.out); rintro e w58 ⟨rfl, hb⟩; refine ⟨_, rfl, ?_⟩; have n0_ := Aside0.mk (below_step (by repeat (first | (with_reducible first | exact HB.out | apply below_alloc | apply pw_below_drewN | apply below_drew1) | exact HB.out)) hb); clear HB; have HB := n0_; clear n0_; (try clear hb); (try clear hb2); (try clear hk); (try clear hi)) | ((with_reducible refine gate_callee (f := 21) rfl ?_); refine goesL_ (some 73) rfl rfl Try.func21 (by kernel_rfl) rfl #[.slice A0 l0.length c0, .int .i64 t432] rfl (by (try simp only [List.map_toArray, List.map_cons, List.map_nil]); first | done | rfl | (simp only [List.length_drop, List.length_take]; rfl)) ?_; (with_reducible refine (scale_Length.calls kj10 _ _ l0 t432 t435 t436 _ ?side1 ?side2 A18.out).mono ?_); (case side1 => repeat (first | exact (Kd.C_below HR0.out HB.out) | (with_reducible refine Kd.C_alloc ?_ _) | (with_reducible refine Kd.C_drewN ?_ _) | (with_reducible refine Kd.C_drew ?_))); (case side2 => exact HC0.out); rintro e w59 ⟨rfl, hb⟩; refine ⟨_, rfl, ?_⟩; have n0_ := Aside0.mk (below_step (by repeat (first | (with_reducible first | exact HB.out | apply below_alloc | apply pw_below_drewN | apply below_drew1) | exact HB.out)) hb); clear HB; have HB := n0_; clear n0_; (try clear hb); (try clear hb2); (try clear hk); (try clear hi)) | ((with_reducible refine gate_callee (f := 19) rfl ?_); refine goesL_ (some 81) rfl rfl Try.func19 (by kernel_rfl) rfl #[.slice A0 l0.length c0, .int .i64 t425] rfl (by (try simp only [List.map_toArray, List.map_cons, List.map_nil]); first | done | rfl | (simp only [List.length_drop, List.length_take]; rfl)) ?_; (with_reducible refine (posix_Twice.calls kj10 _ _ l0 t425 t437 t438 _ ?side1 ?side2 A19.out).mono ?_); (case side1 => repeat (first | exact (Kd.C_below HR0.out HB.out) | (with_reducible refine Kd.C_alloc ?_ _) | (with_reducible refine Kd.C_drewN ?_ _) | (with_reducible refine Kd.C_drew ?_))); (case side2 => exact HC0.out); rintro e w60 ⟨rfl, hb⟩; refine ⟨_, rfl, ?_⟩; have n0_ := Aside0.mk (below_step (by repeat (first | (with_reducible first | exact HB.out | apply below_alloc | apply pw_below_drewN | apply below_drew1) | exact HB.out)) hb); clear HB; have HB := n0_; clear n0_; (try clear hb); (try clear hb2); (try clear hk); (try clear hi)))
                            go_ret
                            exact ⟨by first | rfl | (simp [errW_none, errW_some] <;> rfl) | (simp [*, errW_none, errW_some] <;> rfl), by repeat (first | (with_reducible first | exact HB.out | apply below_alloc | apply pw_below_drewN | apply below_drew1) | exact HB.out)⟩
                          · rw [if_neg c56] at H
                            exact absurd H (by simp)
                        · rw [if_neg c55] at H
                          exact absurd H (by simp)
                      · replace c54 := Bool.eq_false_iff.mpr c54
                        subst c54
                        have H1 : (none) = some r := by rw [if_neg (show ¬ (false = true) by decide)] at H; exact H
                        clear H
                        have H := H1
                        clear H1
                        exact absurd H (by simp)
                    · rw [if_neg c53] at H
                      have c53b0 : (t433 == 86398) = false := beq_eq_false_iff_ne.mpr c53
                      have c53b1 : (t433 != 86398) = true := bne_iff_ne.mpr c53
                      by_cases c61 : t424 = true
                      · subst c61
                        have H1 : (if t427 = (wrap64 (t425 + 1)) then (if (t437 == (t430 == 86400)) = true then (some (t438 == 0)) else (none)) else (none)) = some r := by rw [if_pos rfl] at H; exact H
                        clear H
                        have H := H1
                        clear H1
                        by_cases c62 : t427 = (wrap64 (t425 + 1))
                        · rw [if_pos c62] at H
                          have c62b0 : (t427 == (wrap64 (t425 + 1))) = true := beq_iff_eq.mpr c62
                          have c62b1 : (t427 != (wrap64 (t425 + 1))) = false := bne_eq_false_iff_eq.mpr c62
                          clear c62
                          by_cases c63 : (t437 == (t430 == 86400)) = true
                          · rw [if_pos c63] at H
                            have c63b0 : (t437 == (t430 == 86400)) = true := c63
                            have c63b0e : t437 = (t430 == 86400) := beq_iff_eq.mp c63b0
                            (try (have c63b1 : decide (t437 = (t430 == 86400)) = true := by first | (simp; done) | (simp at c63; done) | simpa using c63))
                            (try (have c63b2 : (t437 == (t430 == 86400)) = true := by first | (simp; done) | (simp at c63; done) | simpa using c63))
                            clear c63
                            obtain rfl := Option.some.inj H
                            go_wp2_with (first | ((with_reducible refine gate_callee (f := 22) rfl ?_); refine goesL_ (some 59) rfl rfl Try.func22 (by kernel_rfl) rfl #[.slice A0 l0.length c0, .int .i64 (wrap64 (a1 + 1))] rfl (by (try simp only [List.map_toArray, List.map_cons, List.map_nil]); first | done | rfl | (simp only [List.length_drop, List.length_take]; rfl)) ?_; (with_reducible refine (scale_Utc.calls kj10 _ _ l0 (wrap64 (a1 + 1)) t429 t430 t431 _ ?side1 ?side2 A16.out).mono ?_); (case side1 => repeat (first | exact (Kd.C_below HR0.out HB.out) | (with_reducible refine Kd.C_alloc ?_ _) | (with_reducible refine Kd.C_drewN ?_ _) | (with_reducible refine Kd.C_drew ?_))); (case side2 => exact HC0.out); rintro e w64 ⟨rfl, hb⟩; refine ⟨_, rfl, ?_⟩; have n0_ := Aside0.mk (below_step (by repeat (first | (with_reducible first | exact HB.out | apply below_alloc | apply pw_below_drewN | apply below_drew1) | exact HB.out)) hb); clear HB; have HB := n0_; clear n0_; (try clear hb); (try clear hb2); (try clear hk); (try clear hi)) | ((with_reducible refine gate_callee (f := 22) rfl ?_); refine goesL_ (some 66) rfl rfl Try.func22 (by kernel_rfl) rfl #[.slice A0 l0.length c0, .int .i64 a1] rfl (by (try simp only [List.map_toArray, List.map_cons, List.map_nil]); first | done | rfl | (simp only [List.length_drop, List.length_take]; rfl)) ?_; (with_reducible refine (scale_Utc.calls kj10 _ _ l0 a1 t432 t433 t434 _ ?side1 ?side2 A17.out).mono ?_); (case side1 => repeat (first | exact (Kd.C_below HR0.out HB.out) | (with_reducible refine Kd.C_alloc ?_ _) | (with_reducible refine Kd.C_drewN ?_ _) | (with_reducible refine Kd.C_drew ?_))); (case side2 => exact HC0.out); rintro e w65 ⟨rfl, hb⟩; refine ⟨_, rfl, ?_⟩; have n0_ := Aside0.mk (below_step (by repeat (first | (with_reducible first | exact HB.out | apply below_alloc | apply pw_below_drewN | apply below_drew1) | exact HB.out)) hb); clear HB; have HB := n0_; clear n0_; (try clear hb); (try clear hb2); (try clear hk); (try clear hi)) | ((with_reducible refine gate_callee (f := 21) rfl ?_); refine goesL_ (some 73) rfl rfl Try.func21 (by kernel_rfl) rfl #[.slice A0 l0.length c0, .int .i64 t432] rfl (by (try simp only [List.map_toArray, List.map_cons, List.map_nil]); first | done | rfl | (simp only [List.length_drop, List.length_take]; rfl)) ?_; (with_reducible refine (scale_Length.calls kj10 _ _ l0 t432 t435 t436 _ ?side1 ?side2 A18.out).mono ?_); (case side1 => repeat (first | exact (Kd.C_below HR0.out HB.out) | (with_reducible refine Kd.C_alloc ?_ _) | (with_reducible refine Kd.C_drewN ?_ _) | (with_reducible refine Kd.C_drew ?_))); (case side2 => exact HC0.out); rintro e w66 ⟨rfl, hb⟩; refine ⟨_, rfl, ?_⟩; have n0_ := Aside0.mk (below_step (by repeat (first | (with_reducible first | exact HB.out | apply below_alloc | apply pw_below_drewN | apply below_drew1) | exact HB.out)) hb); clear HB; have HB := n0_; clear n0_; (try clear hb); (try clear hb2); (try clear hk); (try clear hi)) | ((with_reducible refine gate_callee (f := 19) rfl ?_); refine goesL_ (some 81) rfl rfl Try.func19 (by kernel_rfl) rfl #[.slice A0 l0.length c0, .int .i64 t425] rfl (by (try simp only [List.map_toArray, List.map_cons, List.map_nil]); first | done | rfl | (simp only [List.length_drop, List.length_take]; rfl)) ?_; (with_reducible refine (posix_Twice.calls kj10 _ _ l0 t425 t437 t438 _ ?side1 ?side2 A19.out).mono ?_); (case side1 => repeat (first | exact (Kd.C_below HR0.out HB.out) | (with_reducible refine Kd.C_alloc ?_ _) | (with_reducible refine Kd.C_drewN ?_ _) | (with_reducible refine Kd.C_drew ?_))); (case side2 => exact HC0.out); rintro e w67 ⟨rfl, hb⟩; refine ⟨_, rfl, ?_⟩; have n0_ := Aside0.mk (below_step (by repeat (first | (with_reducible first | exact HB.out | apply below_alloc | apply pw_below_drewN | apply below_drew1) | exact HB.out)) hb); clear HB; have HB := n0_; clear n0_; (try clear hb); (try clear hb2); (try clear hk); (try clear hi)))
                            go_ret
                            exact ⟨by first | rfl | (simp [errW_none, errW_some] <;> rfl) | (simp [*, errW_none, errW_some] <;> rfl), by repeat (first | (with_reducible first | exact HB.out | apply below_alloc | apply pw_below_drewN | apply below_drew1) | exact HB.out)⟩
                          · rw [if_neg c63] at H
                            exact absurd H (by simp)
                        · rw [if_neg c62] at H
                          exact absurd H (by simp)
                      · replace c61 := Bool.eq_false_iff.mpr c61
                        subst c61
                        have H1 : (none) = some r := by rw [if_neg (show ¬ (false = true) by decide)] at H; exact H
                        clear H
                        have H := H1
                        clear H1
                        exact absurd H (by simp)
                  · rw [if_neg c52] at H
                    have c52b0 : (t435 == 86399) = false := beq_eq_false_iff_ne.mpr c52
                    have c52b1 : (t435 != 86399) = true := bne_iff_ne.mpr c52
                    by_cases c68 : t424 = true
                    · subst c68
                      have H1 : (if t427 = (wrap64 (t425 + 1)) then (if (t437 == (t430 == 86400)) = true then (some (t438 == 0)) else (none)) else (none)) = some r := by rw [if_pos rfl] at H; exact H
                      clear H
                      have H := H1
                      clear H1
                      by_cases c69 : t427 = (wrap64 (t425 + 1))
                      · rw [if_pos c69] at H
                        have c69b0 : (t427 == (wrap64 (t425 + 1))) = true := beq_iff_eq.mpr c69
                        have c69b1 : (t427 != (wrap64 (t425 + 1))) = false := bne_eq_false_iff_eq.mpr c69
                        clear c69
                        by_cases c70 : (t437 == (t430 == 86400)) = true
                        · rw [if_pos c70] at H
                          have c70b0 : (t437 == (t430 == 86400)) = true := c70
                          have c70b0e : t437 = (t430 == 86400) := beq_iff_eq.mp c70b0
                          (try (have c70b1 : decide (t437 = (t430 == 86400)) = true := by first | (simp; done) | (simp at c70; done) | simpa using c70))
                          (try (have c70b2 : (t437 == (t430 == 86400)) = true := by first | (simp; done) | (simp at c70; done) | simpa using c70))
                          clear c70
                          obtain rfl := Option.some.inj H
                          go_wp2_with (first | ((with_reducible refine gate_callee (f := 22) rfl ?_); refine goesL_ (some 59) rfl rfl Try.func22 (by kernel_rfl) rfl #[.slice A0 l0.length c0, .int .i64 (wrap64 (a1 + 1))] rfl (by (try simp only [List.map_toArray, List.map_cons, List.map_nil]); first | done | rfl | (simp only [List.length_drop, List.length_take]; rfl)) ?_; (with_reducible refine (scale_Utc.calls kj10 _ _ l0 (wrap64 (a1 + 1)) t429 t430 t431 _ ?side1 ?side2 A16.out).mono ?_); (case side1 => repeat (first | exact (Kd.C_below HR0.out HB.out) | (with_reducible refine Kd.C_alloc ?_ _) | (with_reducible refine Kd.C_drewN ?_ _) | (with_reducible refine Kd.C_drew ?_))); (case side2 => exact HC0.out); rintro e w71 ⟨rfl, hb⟩; refine ⟨_, rfl, ?_⟩; have n0_ := Aside0.mk (below_step (by repeat (first | (with_reducible first | exact HB.out | apply below_alloc | apply pw_below_drewN | apply below_drew1) | exact HB.out)) hb); clear HB; have HB := n0_; clear n0_; (try clear hb); (try clear hb2); (try clear hk); (try clear hi)) | ((with_reducible refine gate_callee (f := 22) rfl ?_); refine goesL_ (some 66) rfl rfl Try.func22 (by kernel_rfl) rfl #[.slice A0 l0.length c0, .int .i64 a1] rfl (by (try simp only [List.map_toArray, List.map_cons, List.map_nil]); first | done | rfl | (simp only [List.length_drop, List.length_take]; rfl)) ?_; (with_reducible refine (scale_Utc.calls kj10 _ _ l0 a1 t432 t433 t434 _ ?side1 ?side2 A17.out).mono ?_); (case side1 => repeat (first | exact (Kd.C_below HR0.out HB.out) | (with_reducible refine Kd.C_alloc ?_ _) | (with_reducible refine Kd.C_drewN ?_ _) | (with_reducible refine Kd.C_drew ?_))); (case side2 => exact HC0.out); rintro e w72 ⟨rfl, hb⟩; refine ⟨_, rfl, ?_⟩; have n0_ := Aside0.mk (below_step (by repeat (first | (with_reducible first | exact HB.out | apply below_alloc | apply pw_below_drewN | apply below_drew1) | exact HB.out)) hb); clear HB; have HB := n0_; clear n0_; (try clear hb); (try clear hb2); (try clear hk); (try clear hi)) | ((with_reducible refine gate_callee (f := 21) rfl ?_); refine goesL_ (some 73) rfl rfl Try.func21 (by kernel_rfl) rfl #[.slice A0 l0.length c0, .int .i64 t432] rfl (by (try simp only [List.map_toArray, List.map_cons, List.map_nil]); first | done | rfl | (simp only [List.length_drop, List.length_take]; rfl)) ?_; (with_reducible refine (scale_Length.calls kj10 _ _ l0 t432 t435 t436 _ ?side1 ?side2 A18.out).mono ?_); (case side1 => repeat (first | exact (Kd.C_below HR0.out HB.out) | (with_reducible refine Kd.C_alloc ?_ _) | (with_reducible refine Kd.C_drewN ?_ _) | (with_reducible refine Kd.C_drew ?_))); (case side2 => exact HC0.out); rintro e w73 ⟨rfl, hb⟩; refine ⟨_, rfl, ?_⟩; have n0_ := Aside0.mk (below_step (by repeat (first | (with_reducible first | exact HB.out | apply below_alloc | apply pw_below_drewN | apply below_drew1) | exact HB.out)) hb); clear HB; have HB := n0_; clear n0_; (try clear hb); (try clear hb2); (try clear hk); (try clear hi)) | ((with_reducible refine gate_callee (f := 19) rfl ?_); refine goesL_ (some 81) rfl rfl Try.func19 (by kernel_rfl) rfl #[.slice A0 l0.length c0, .int .i64 t425] rfl (by (try simp only [List.map_toArray, List.map_cons, List.map_nil]); first | done | rfl | (simp only [List.length_drop, List.length_take]; rfl)) ?_; (with_reducible refine (posix_Twice.calls kj10 _ _ l0 t425 t437 t438 _ ?side1 ?side2 A19.out).mono ?_); (case side1 => repeat (first | exact (Kd.C_below HR0.out HB.out) | (with_reducible refine Kd.C_alloc ?_ _) | (with_reducible refine Kd.C_drewN ?_ _) | (with_reducible refine Kd.C_drew ?_))); (case side2 => exact HC0.out); rintro e w74 ⟨rfl, hb⟩; refine ⟨_, rfl, ?_⟩; have n0_ := Aside0.mk (below_step (by repeat (first | (with_reducible first | exact HB.out | apply below_alloc | apply pw_below_drewN | apply below_drew1) | exact HB.out)) hb); clear HB; have HB := n0_; clear n0_; (try clear hb); (try clear hb2); (try clear hk); (try clear hi)))
                          go_ret
                          exact ⟨by first | rfl | (simp [errW_none, errW_some] <;> rfl) | (simp [*, errW_none, errW_some] <;> rfl), by repeat (first | (with_reducible first | exact HB.out | apply below_alloc | apply pw_below_drewN | apply below_drew1) | exact HB.out)⟩
                        · rw [if_neg c70] at H
                          exact absurd H (by simp)
                      · rw [if_neg c69] at H
                        exact absurd H (by simp)
                    · replace c68 := Bool.eq_false_iff.mpr c68
                      subst c68
                      have H1 : (none) = some r := by rw [if_neg (show ¬ (false = true) by decide)] at H; exact H
                      clear H
                      have H := H1
                      clear H1
                      exact absurd H (by simp)

end Go.Proofs.Ytlfnkamhokfeaaa.PAll
