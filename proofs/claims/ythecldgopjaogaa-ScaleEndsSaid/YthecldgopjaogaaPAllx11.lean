-- Written for this claim by wip/tools of this repo (after the kit's print; own contracts laid in).
import Derived.Test.YthecldgopjaogaaPAllx0
import Derived.Test.YthecldgopjaogaaPAllx3
import Derived.Test.YthecldgopjaogaaPAllx4
import Derived.Test.YthecldgopjaogaaPAllx5
namespace Go.Proofs.Ythecldgopjaogaa.PAll
open Go.RowKit Go.Proofs.YthecldgopjaogaaW.PrintWords Go.Proofs.YthecldgopjaogaaW.PrintLast Go.Proofs.YthecldgopjaogaaW.PrintMore
attribute [local go_sem] max2_int min2_int max_two min_two max_three min_three max_four min_four   -- for this text's walks alone
set_option linter.unusedVariables false
set_option linter.unusedSimpArgs false

/-! ### epactlaw22_ScaleNext: function 5 -/
mutual
def epactlaw22_ScaleNext.j0 : Nat → List (S45) → Int → Bool → Bool → Option (Bool)
  | 0, _, _, _, _ => none
  | k + 1, x0, x1, x5, x25 => if x25 = true then (some x5) else ((scale_Utc.f k x0 x1).bind fun bt408 => ((scale_Utc.f k x0 (wrap64 (x1 + 1))).bind fun bt411 => (if bt408.2.2 = 0 then (epactlaw22_ScaleNext.j1 k x0 x5 bt408.1 bt408.2.1 bt408.2.2 bt411.1 bt411.2.1 bt411.2.2 (bt411.2.2 != 0)) else (epactlaw22_ScaleNext.j1 k x0 x5 bt408.1 bt408.2.1 bt408.2.2 bt411.1 bt411.2.1 bt411.2.2 true))))
def epactlaw22_ScaleNext.j1 : Nat → List (S45) → Bool → Int → Int → Int → Int → Int → Int → Bool → Option (Bool)
  | 0, _, _, _, _, _, _, _, _, _ => none
  | k + 1, x0, x5, x6, x7, x8, x9, x10, x11, x47 => if x47 = true then (if x5 = true then (if x8 = 0 then (some true) else (some (x11 != 0))) else (none)) else ((scale_Length.f k x0 x6).bind fun bt414 => (if (wrap64 (x7 + 1)) < bt414.1 then (if x5 = true then (if bt414.2 = 0 then (if x9 = x6 then (some (x10 == (wrap64 (x7 + 1)))) else (none)) else (none)) else (none)) else (if x5 = true then (if bt414.2 = 0 then (if x7 = (wrap64 (bt414.1 - 1)) then (if x9 = (wrap64 (x6 + 1)) then (some (x10 == 0)) else (none)) else (none)) else (none)) else (none))))
end
def epactlaw22_ScaleNext.f (k : Nat) (l0 : List (S45)) (a1 : Int) : Option (Bool) := (epactlaw22_small.f k).bind fun t407 => (if (l0.length : Int) > 300 then (epactlaw22_ScaleNext.j0 k l0 a1 t407 true) else (if a1 < 0 then (epactlaw22_ScaleNext.j0 k l0 a1 t407 true) else (epactlaw22_ScaleNext.j0 k l0 a1 t407 (decide (a1 > 1152921504606846976)))))
theorem epactlaw22_ScaleNext.mono_l : ∀ k, (∀ y0 y1 y2 y3, LeO (epactlaw22_ScaleNext.j0 k y0 y1 y2 y3) (epactlaw22_ScaleNext.j0 (k + 1) y0 y1 y2 y3)) ∧ (∀ y0 y1 y2 y3 y4 y5 y6 y7 y8, LeO (epactlaw22_ScaleNext.j1 k y0 y1 y2 y3 y4 y5 y6 y7 y8) (epactlaw22_ScaleNext.j1 (k + 1) y0 y1 y2 y3 y4 y5 y6 y7 y8))
  | 0 => ⟨fun _ _ _ _ r h => by simp [epactlaw22_ScaleNext.j0] at h, fun _ _ _ _ _ _ _ _ _ r h => by simp [epactlaw22_ScaleNext.j1] at h⟩
  | k + 1 => by
    obtain ⟨ih0, ih1⟩ := epactlaw22_ScaleNext.mono_l k
    refine ⟨?_, ?_⟩
    · intro y0 y1 y2 y3
      unfold epactlaw22_ScaleNext.j0
      repeat' first
      | (with_reducible exact ih0 _ _ _ _)
      | (with_reducible exact ih1 _ _ _ _ _ _ _ _ _)
      | (with_reducible exact epactlaw22_small.mono _)
      | (with_reducible exact scale_Length.mono _ _ _)
      | (with_reducible exact scale_Utc.mono _ _ _)
      | (with_reducible exact LeO.refl _)
      | (with_reducible exact LeO.none _)
      | (with_reducible refine LeO.ite ?_ ?_)
      | (with_reducible refine LeO.bind ?_ (fun _ => ?_))
      | exact ih0 _ _ _ _
      | exact ih1 _ _ _ _ _ _ _ _ _
      | exact epactlaw22_small.mono _
      | exact scale_Length.mono _ _ _
      | exact scale_Utc.mono _ _ _
      | exact LeO.none _
      | refine LeO.ite ?_ ?_
      | refine LeO.bind ?_ (fun _ => ?_)
    · intro y0 y1 y2 y3 y4 y5 y6 y7 y8
      unfold epactlaw22_ScaleNext.j1
      repeat' first
      | (with_reducible exact ih0 _ _ _ _)
      | (with_reducible exact ih1 _ _ _ _ _ _ _ _ _)
      | (with_reducible exact epactlaw22_small.mono _)
      | (with_reducible exact scale_Length.mono _ _ _)
      | (with_reducible exact scale_Utc.mono _ _ _)
      | (with_reducible exact LeO.refl _)
      | (with_reducible exact LeO.none _)
      | (with_reducible refine LeO.ite ?_ ?_)
      | (with_reducible refine LeO.bind ?_ (fun _ => ?_))
      | exact ih0 _ _ _ _
      | exact ih1 _ _ _ _ _ _ _ _ _
      | exact epactlaw22_small.mono _
      | exact scale_Length.mono _ _ _
      | exact scale_Utc.mono _ _ _
      | exact LeO.none _
      | refine LeO.ite ?_ ?_
      | refine LeO.bind ?_ (fun _ => ?_)
theorem epactlaw22_ScaleNext.mono : ∀ a0 a1 k, LeO (epactlaw22_ScaleNext.f k a0 a1) (epactlaw22_ScaleNext.f (k + 1) a0 a1) := by
  intro a0 a1 k
  obtain ⟨ih0, ih1⟩ := epactlaw22_ScaleNext.mono_l k
  unfold epactlaw22_ScaleNext.f
  repeat' first
      | (with_reducible exact ih0 _ _ _ _)
      | (with_reducible exact ih1 _ _ _ _ _ _ _ _ _)
      | (with_reducible exact epactlaw22_small.mono _)
      | (with_reducible exact scale_Length.mono _ _ _)
      | (with_reducible exact scale_Utc.mono _ _ _)
      | (with_reducible exact LeO.refl _)
      | (with_reducible exact LeO.none _)
      | (with_reducible refine LeO.ite ?_ ?_)
      | (with_reducible refine LeO.bind ?_ (fun _ => ?_))
      | exact ih0 _ _ _ _
      | exact ih1 _ _ _ _ _ _ _ _ _
      | exact epactlaw22_small.mono _
      | exact scale_Length.mono _ _ _
      | exact scale_Utc.mono _ _ _
      | exact LeO.none _
      | refine LeO.ite ?_ ?_
      | refine LeO.bind ?_ (fun _ => ?_)
set_option maxHeartbeats 8000000 in
set_option maxRecDepth 100000 in
theorem epactlaw22_ScaleNext.calls (k : Nat) (A0 : Option Addr) (c0 : Nat) (l0 : List (S45)) (a1 : Int) (r : Bool) (w : World) (hr0 : Kd.C k45 w A0 l0.length l0) (hc0 : l0.length ≤ c0) (h : epactlaw22_ScaleNext.f k l0 a1 = some r) :
    Calls Try.prog 5 #[.slice A0 l0.length c0, .int .i64 a1] w fun e w' => e = .returned (.bool r) ∧ Below w.heap.size w w' := by
  have HR0 := Aside0.mk hr0
  have HC0 := Aside0.mk hc0
  clear hr0 hc0
  have HB := Aside0.mk (Below.refl w.heap.size w)
  have H : ((epactlaw22_small.f k).bind fun t407 => (if (l0.length : Int) > 300 then (epactlaw22_ScaleNext.j0 k l0 a1 t407 true) else (if a1 < 0 then (epactlaw22_ScaleNext.j0 k l0 a1 t407 true) else (epactlaw22_ScaleNext.j0 k l0 a1 t407 (decide (a1 > 1152921504606846976)))))) = some r := h
  clear h
  replace H := Option.bind_eq_some_iff.mp H
  obtain ⟨t407, A30, H⟩ := H
  replace H : (if (l0.length : Int) > 300 then (epactlaw22_ScaleNext.j0 k l0 a1 t407 true) else (if a1 < 0 then (epactlaw22_ScaleNext.j0 k l0 a1 t407 true) else (epactlaw22_ScaleNext.j0 k l0 a1 t407 (decide (a1 > 1152921504606846976))))) = some r := H
  have A3 := Aside0.mk A30
  clear A30
  have HC4 := Aside0.mk H
  clear H
  go_enter Try.func5, Try.ntmps5
  go_upto_region 2 with (first | ((with_reducible refine gate_callee (f := 9) rfl ?_); refine goesL_ (some 14) rfl rfl Try.func9 (by kernel_rfl) rfl #[] rfl (by (try simp only [List.map_toArray, List.map_cons, List.map_nil]); first | done | rfl | (simp only [List.length_drop, List.length_take]; rfl)) ?_; (with_reducible refine (epactlaw22_small.calls k  t407 _ A3.out).mono ?_); rintro e w5 ⟨rfl, hb⟩; refine ⟨_, rfl, ?_⟩; have n0_ := Aside0.mk (below_step (by repeat (first | (with_reducible first | exact HB.out | apply below_alloc | apply pw_below_drewN | apply below_drew1) | exact HB.out)) hb); clear HB; have HB := n0_; clear n0_; (try clear hb); (try clear hb2); (try clear hk); (try clear hi)))
  (try simp only [Act.put, List.setIfInBounds_toArray, List.set_cons_zero, List.set_cons_succ])
  go_cut [25] (fun v25 wc => ∃ (kq : Nat) (x25_3 : Bool), v25 = .bool x25_3 ∧ Aside0 (epactlaw22_ScaleNext.j0 kq l0 a1 t407 x25_3 = some r) ∧ Aside0 (kq ≤ k) ∧ Aside0 (Below w.heap.size w wc))
  case first =>
    have H := HC4.out
    clear HC4
    by_cases c6 : (l0.length : Int) > 300
    · rw [if_pos c6] at H
      have c6b0 : decide (300 < (l0.length : Int)) = true := decide_eq_true c6
      have c6b1 : decide (300 < l0.length) = true := decide_eq_true (by omega)
      clear c6
      (first | rw [c6b0] | (simp only [i64_w, i32_w]; rw [c6b0]) | skip)
      have H' := Aside0.mk H
      clear H
      go_wp2
      go_meet
      case rel => exact ⟨_, (true), (by first | rfl | (simp; done) | (simp [*]; done)), H', ⟨by first | omega | exact Nat.le_refl _⟩, ⟨by repeat (first | (with_reducible first | exact HB.out | apply below_alloc | apply pw_below_drewN | apply below_drew1) | exact HB.out)⟩⟩
    · rw [if_neg c6] at H
      have c6b0 : decide (300 < (l0.length : Int)) = false := decide_eq_false c6
      have c6b1 : decide (300 < l0.length) = false := decide_eq_false (by omega)
      clear c6
      (first | rw [c6b0] | (simp only [i64_w, i32_w]; rw [c6b0]) | skip)
      by_cases c7 : a1 < 0
      · rw [if_pos c7] at H
        have c7b0 : decide (a1 < 0) = true := decide_eq_true c7
        clear c7
        have H' := Aside0.mk H
        clear H
        go_wp2
        go_meet
        case rel => exact ⟨_, (true), (by first | rfl | (simp; done) | (simp [*]; done)), H', ⟨by first | omega | exact Nat.le_refl _⟩, ⟨by repeat (first | (with_reducible first | exact HB.out | apply below_alloc | apply pw_below_drewN | apply below_drew1) | exact HB.out)⟩⟩
      · rw [if_neg c7] at H
        have c7b0 : decide (a1 < 0) = false := decide_eq_false c7
        clear c7
        have H' := Aside0.mk H
        clear H
        go_wp2
        go_meet
        case rel => exact ⟨_, (decide (a1 > 1152921504606846976)), (by first | rfl | (simp; done) | (simp [*]; done)), H', ⟨by first | omega | exact Nat.le_refl _⟩, ⟨by repeat (first | (with_reducible first | exact HB.out | apply below_alloc | apply pw_below_drewN | apply below_drew1) | exact HB.out)⟩⟩
  case rest =>
    clear HC4
    try clear p2
    try clear c5
    try clear c6
    try clear c6b0
    try clear c6b1
    try clear c7
    try clear c7b0
    obtain ⟨kq, x25_3, rfl, HA, HJ3, HB⟩ := hcut
    cases kq with
    | zero => exact absurd HA.out (by simp [epactlaw22_ScaleNext.j0])
    | succ kj3 =>
      have H := HA.out
      clear HA
      simp only [epactlaw22_ScaleNext.j0] at H
      by_cases c8 : x25_3 = true
      · subst c8
        have H1 : (some t407) = some r := by rw [if_pos rfl] at H; exact H
        clear H
        have H := H1
        clear H1
        obtain rfl := Option.some.inj H
        go_wp2
        go_ret
        exact ⟨by first | rfl | (simp [errW_none, errW_some] <;> rfl) | (simp [*, errW_none, errW_some] <;> rfl), by repeat (first | (with_reducible first | exact HB.out | apply below_alloc | apply pw_below_drewN | apply below_drew1) | exact HB.out)⟩
      · replace c8 := Bool.eq_false_iff.mpr c8
        subst c8
        have H1 : ((scale_Utc.f kj3 l0 a1).bind fun bt408 => ((scale_Utc.f kj3 l0 (wrap64 (a1 + 1))).bind fun bt411 => (if bt408.2.2 = 0 then (epactlaw22_ScaleNext.j1 kj3 l0 t407 bt408.1 bt408.2.1 bt408.2.2 bt411.1 bt411.2.1 bt411.2.2 (bt411.2.2 != 0)) else (epactlaw22_ScaleNext.j1 kj3 l0 t407 bt408.1 bt408.2.1 bt408.2.2 bt411.1 bt411.2.1 bt411.2.2 true)))) = some r := by rw [if_neg (show ¬ (false = true) by decide)] at H; exact H
        clear H
        have H := H1
        clear H1
        replace H := Option.bind_eq_some_iff.mp H
        obtain ⟨⟨t408, t409, t410⟩, A90, H⟩ := H
        replace H : ((scale_Utc.f kj3 l0 (wrap64 (a1 + 1))).bind fun bt411 => (if t410 = 0 then (epactlaw22_ScaleNext.j1 kj3 l0 t407 t408 t409 t410 bt411.1 bt411.2.1 bt411.2.2 (bt411.2.2 != 0)) else (epactlaw22_ScaleNext.j1 kj3 l0 t407 t408 t409 t410 bt411.1 bt411.2.1 bt411.2.2 true))) = some r := H
        have A9 := Aside0.mk A90
        clear A90
        replace H := Option.bind_eq_some_iff.mp H
        obtain ⟨⟨t411, t412, t413⟩, A100, H⟩ := H
        replace H : (if t410 = 0 then (epactlaw22_ScaleNext.j1 kj3 l0 t407 t408 t409 t410 t411 t412 t413 (t413 != 0)) else (epactlaw22_ScaleNext.j1 kj3 l0 t407 t408 t409 t410 t411 t412 t413 true)) = some r := H
        have A10 := Aside0.mk A100
        clear A100
        have HC11 := Aside0.mk H
        clear H
        go_upto_region 6 with (first | ((with_reducible refine gate_callee (f := 10) rfl ?_); refine goesL_ (some 30) rfl rfl Try.func10 (by kernel_rfl) rfl #[.slice A0 l0.length c0, .int .i64 a1] rfl (by (try simp only [List.map_toArray, List.map_cons, List.map_nil]); first | done | rfl | (simp only [List.length_drop, List.length_take]; rfl)) ?_; (with_reducible refine (scale_Utc.calls kj3 _ _ l0 a1 t408 t409 t410 _ ?side1 ?side2 A9.out).mono ?_); (case side1 => repeat (first | exact (Kd.C_below HR0.out HB.out) | (with_reducible refine Kd.C_alloc ?_ _) | (with_reducible refine Kd.C_drewN ?_ _) | (with_reducible refine Kd.C_drew ?_))); (case side2 => exact HC0.out); rintro e w12 ⟨rfl, hb⟩; refine ⟨_, rfl, ?_⟩; have n0_ := Aside0.mk (below_step (by repeat (first | (with_reducible first | exact HB.out | apply below_alloc | apply pw_below_drewN | apply below_drew1) | exact HB.out)) hb); clear HB; have HB := n0_; clear n0_; (try clear hb); (try clear hb2); (try clear hk); (try clear hi)) | ((with_reducible refine gate_callee (f := 10) rfl ?_); refine goesL_ (some 38) rfl rfl Try.func10 (by kernel_rfl) rfl #[.slice A0 l0.length c0, .int .i64 (wrap64 (a1 + 1))] rfl (by (try simp only [List.map_toArray, List.map_cons, List.map_nil]); first | done | rfl | (simp only [List.length_drop, List.length_take]; rfl)) ?_; (with_reducible refine (scale_Utc.calls kj3 _ _ l0 (wrap64 (a1 + 1)) t411 t412 t413 _ ?side1 ?side2 A10.out).mono ?_); (case side1 => repeat (first | exact (Kd.C_below HR0.out HB.out) | (with_reducible refine Kd.C_alloc ?_ _) | (with_reducible refine Kd.C_drewN ?_ _) | (with_reducible refine Kd.C_drew ?_))); (case side2 => exact HC0.out); rintro e w13 ⟨rfl, hb⟩; refine ⟨_, rfl, ?_⟩; have n0_ := Aside0.mk (below_step (by repeat (first | (with_reducible first | exact HB.out | apply below_alloc | apply pw_below_drewN | apply below_drew1) | exact HB.out)) hb); clear HB; have HB := n0_; clear n0_; (try clear hb); (try clear hb2); (try clear hk); (try clear hi)))
        (try simp only [Act.put, List.setIfInBounds_toArray, List.set_cons_zero, List.set_cons_succ])
        go_cut [47] (fun v47 wc => ∃ (kq : Nat) (x47_10 : Bool), v47 = .bool x47_10 ∧ Aside0 (epactlaw22_ScaleNext.j1 kq l0 t407 t408 t409 t410 t411 t412 t413 x47_10 = some r) ∧ Aside0 (kq ≤ kj3) ∧ Aside0 (Below w.heap.size w wc))
        case first =>
          have H := HC11.out
          clear HC11
          by_cases c14 : t410 = 0
          · rw [if_pos c14] at H
            have c14b0 : (t410 == 0) = true := beq_iff_eq.mpr c14
            have c14b1 : (t410 != 0) = false := bne_eq_false_iff_eq.mpr c14
            clear c14
            (first | rw [c14b0] | (simp only [i64_w, i32_w]; rw [c14b0]) | skip)
            have H' := Aside0.mk H
            clear H
            go_wp2
            go_meet
            case rel => exact ⟨_, ((t413 != 0)), (by first | rfl | (simp; done) | (simp [*]; done)), H', ⟨by have := HJ3.out; first | omega | exact Nat.le_refl _⟩, ⟨by repeat (first | (with_reducible first | exact HB.out | apply below_alloc | apply pw_below_drewN | apply below_drew1) | exact HB.out)⟩⟩
          · rw [if_neg c14] at H
            have c14b0 : (t410 == 0) = false := beq_eq_false_iff_ne.mpr c14
            have c14b1 : (t410 != 0) = true := bne_iff_ne.mpr c14
            (first | rw [c14b0] | (simp only [i64_w, i32_w]; rw [c14b0]) | skip)
            have H' := Aside0.mk H
            clear H
            go_wp2
            go_meet
            case rel => exact ⟨_, (true), (by first | rfl | (simp; done) | (simp [*]; done)), H', ⟨by have := HJ3.out; first | omega | exact Nat.le_refl _⟩, ⟨by repeat (first | (with_reducible first | exact HB.out | apply below_alloc | apply pw_below_drewN | apply below_drew1) | exact HB.out)⟩⟩
        case rest =>
          clear HC11
          try clear c1
          try clear p2
          try clear c5
          try clear c6
          try clear c6b0
          try clear c6b1
          try clear p6
          try clear c7
          try clear c7b0
          try clear c8
          try clear c9
          try clear c10
          try clear c14
          try clear c14b0
          try clear c14b1
          try clear p2
          obtain ⟨kq, x47_10, rfl, HA, HJ10, HB⟩ := hcut
          cases kq with
          | zero => exact absurd HA.out (by simp [epactlaw22_ScaleNext.j1])
          | succ kj10 =>
            have H := HA.out
            clear HA
            simp only [epactlaw22_ScaleNext.j1] at H
            by_cases c15 : x47_10 = true
            · subst c15
              have H1 : (if t407 = true then (if t410 = 0 then (some true) else (some (t413 != 0))) else (none)) = some r := by rw [if_pos rfl] at H; exact H
              clear H
              have H := H1
              clear H1
              by_cases c16 : t407 = true
              · subst c16
                have H1 : (if t410 = 0 then (some true) else (some (t413 != 0))) = some r := by rw [if_pos rfl] at H; exact H
                clear H
                have H := H1
                clear H1
                by_cases c17 : t410 = 0
                · rw [if_pos c17] at H
                  have c17b0 : (t410 == 0) = true := beq_iff_eq.mpr c17
                  have c17b1 : (t410 != 0) = false := bne_eq_false_iff_eq.mpr c17
                  clear c17
                  obtain rfl := Option.some.inj H
                  go_wp2
                  go_ret
                  exact ⟨by first | rfl | (simp [errW_none, errW_some] <;> rfl) | (simp [*, errW_none, errW_some] <;> rfl), by repeat (first | (with_reducible first | exact HB.out | apply below_alloc | apply pw_below_drewN | apply below_drew1) | exact HB.out)⟩
                · rw [if_neg c17] at H
                  have c17b0 : (t410 == 0) = false := beq_eq_false_iff_ne.mpr c17
                  have c17b1 : (t410 != 0) = true := bne_iff_ne.mpr c17
                  obtain rfl := Option.some.inj H
                  go_wp2
                  go_ret
                  exact ⟨by first | rfl | (simp [errW_none, errW_some] <;> rfl) | (simp [*, errW_none, errW_some] <;> rfl), by repeat (first | (with_reducible first | exact HB.out | apply below_alloc | apply pw_below_drewN | apply below_drew1) | exact HB.out)⟩
              · replace c16 := Bool.eq_false_iff.mpr c16
                subst c16
                have H1 : (none) = some r := by rw [if_neg (show ¬ (false = true) by decide)] at H; exact H
                clear H
                have H := H1
                clear H1
                exact absurd H (by simp)
            · replace c15 := Bool.eq_false_iff.mpr c15
              subst c15
              have H1 : ((scale_Length.f kj10 l0 t408).bind fun bt414 => (if (wrap64 (t409 + 1)) < bt414.1 then (if t407 = true then (if bt414.2 = 0 then (if t411 = t408 then (some (t412 == (wrap64 (t409 + 1)))) else (none)) else (none)) else (none)) else (if t407 = true then (if bt414.2 = 0 then (if t409 = (wrap64 (bt414.1 - 1)) then (if t411 = (wrap64 (t408 + 1)) then (some (t412 == 0)) else (none)) else (none)) else (none)) else (none)))) = some r := by rw [if_neg (show ¬ (false = true) by decide)] at H; exact H
              clear H
              have H := H1
              clear H1
              replace H := Option.bind_eq_some_iff.mp H
              obtain ⟨⟨t414, t415⟩, A180, H⟩ := H
              replace H : (if (wrap64 (t409 + 1)) < t414 then (if t407 = true then (if t415 = 0 then (if t411 = t408 then (some (t412 == (wrap64 (t409 + 1)))) else (none)) else (none)) else (none)) else (if t407 = true then (if t415 = 0 then (if t409 = (wrap64 (t414 - 1)) then (if t411 = (wrap64 (t408 + 1)) then (some (t412 == 0)) else (none)) else (none)) else (none)) else (none))) = some r := H
              have A18 := Aside0.mk A180
              clear A180
              by_cases c19 : (wrap64 (t409 + 1)) < t414
              · rw [if_pos c19] at H
                have c19b0 : decide ((wrap64 (t409 + 1)) < t414) = true := decide_eq_true c19
                clear c19
                by_cases c20 : t407 = true
                · subst c20
                  have H1 : (if t415 = 0 then (if t411 = t408 then (some (t412 == (wrap64 (t409 + 1)))) else (none)) else (none)) = some r := by rw [if_pos rfl] at H; exact H
                  clear H
                  have H := H1
                  clear H1
                  by_cases c21 : t415 = 0
                  · rw [if_pos c21] at H
                    have c21b0 : (t415 == 0) = true := beq_iff_eq.mpr c21
                    have c21b1 : (t415 != 0) = false := bne_eq_false_iff_eq.mpr c21
                    clear c21
                    by_cases c22 : t411 = t408
                    · rw [if_pos c22] at H
                      have c22b0 : (t411 == t408) = true := beq_iff_eq.mpr c22
                      have c22b1 : (t411 != t408) = false := bne_eq_false_iff_eq.mpr c22
                      clear c22
                      obtain rfl := Option.some.inj H
                      go_wp2_with (first | ((with_reducible refine gate_callee (f := 14) rfl ?_); refine goesL_ (some 60) rfl rfl Try.func14 (by kernel_rfl) rfl #[.slice A0 l0.length c0, .int .i64 t408] rfl (by (try simp only [List.map_toArray, List.map_cons, List.map_nil]); first | done | rfl | (simp only [List.length_drop, List.length_take]; rfl)) ?_; (with_reducible refine (scale_Length.calls kj10 _ _ l0 t408 t414 t415 _ ?side1 ?side2 A18.out).mono ?_); (case side1 => repeat (first | exact (Kd.C_below HR0.out HB.out) | (with_reducible refine Kd.C_alloc ?_ _) | (with_reducible refine Kd.C_drewN ?_ _) | (with_reducible refine Kd.C_drew ?_))); (case side2 => exact HC0.out); rintro e w23 ⟨rfl, hb⟩; refine ⟨_, rfl, ?_⟩; have n0_ := Aside0.mk (below_step (by repeat (first | (with_reducible first | exact HB.out | apply below_alloc | apply pw_below_drewN | apply below_drew1) | exact HB.out)) hb); clear HB; have HB := n0_; clear n0_; (try clear hb); (try clear hb2); (try clear hk); (try clear hi)))
                      go_ret
                      exact ⟨by first | rfl | (simp [errW_none, errW_some] <;> rfl) | (simp [*, errW_none, errW_some] <;> rfl), by repeat (first | (with_reducible first | exact HB.out | apply below_alloc | apply pw_below_drewN | apply below_drew1) | exact HB.out)⟩
                    · rw [if_neg c22] at H
                      exact absurd H (by simp)
                  · rw [if_neg c21] at H
                    exact absurd H (by simp)
                · replace c20 := Bool.eq_false_iff.mpr c20
                  subst c20
                  have H1 : (none) = some r := by rw [if_neg (show ¬ (false = true) by decide)] at H; exact H
                  clear H
                  have H := H1
                  clear H1
                  exact absurd H (by simp)
              · rw [if_neg c19] at H
                have c19b0 : decide ((wrap64 (t409 + 1)) < t414) = false := decide_eq_false c19
                clear c19
                by_cases c24 : t407 = true
                · subst c24
                  have H1 : (if t415 = 0 then (if t409 = (wrap64 (t414 - 1)) then (if t411 = (wrap64 (t408 + 1)) then (some (t412 == 0)) else (none)) else (none)) else (none)) = some r := by rw [if_pos rfl] at H; exact H
                  clear H
                  have H := H1
                  clear H1
                  by_cases c25 : t415 = 0
                  · rw [if_pos c25] at H
                    have c25b0 : (t415 == 0) = true := beq_iff_eq.mpr c25
                    have c25b1 : (t415 != 0) = false := bne_eq_false_iff_eq.mpr c25
                    clear c25
                    by_cases c26 : t409 = (wrap64 (t414 - 1))
                    · rw [if_pos c26] at H
                      have c26b0 : (t409 == (wrap64 (t414 - 1))) = true := beq_iff_eq.mpr c26
                      have c26b1 : (t409 != (wrap64 (t414 - 1))) = false := bne_eq_false_iff_eq.mpr c26
                      clear c26
                      by_cases c27 : t411 = (wrap64 (t408 + 1))
                      · rw [if_pos c27] at H
                        have c27b0 : (t411 == (wrap64 (t408 + 1))) = true := beq_iff_eq.mpr c27
                        have c27b1 : (t411 != (wrap64 (t408 + 1))) = false := bne_eq_false_iff_eq.mpr c27
                        clear c27
                        obtain rfl := Option.some.inj H
                        go_wp2_with (first | ((with_reducible refine gate_callee (f := 14) rfl ?_); refine goesL_ (some 60) rfl rfl Try.func14 (by kernel_rfl) rfl #[.slice A0 l0.length c0, .int .i64 t408] rfl (by (try simp only [List.map_toArray, List.map_cons, List.map_nil]); first | done | rfl | (simp only [List.length_drop, List.length_take]; rfl)) ?_; (with_reducible refine (scale_Length.calls kj10 _ _ l0 t408 t414 t415 _ ?side1 ?side2 A18.out).mono ?_); (case side1 => repeat (first | exact (Kd.C_below HR0.out HB.out) | (with_reducible refine Kd.C_alloc ?_ _) | (with_reducible refine Kd.C_drewN ?_ _) | (with_reducible refine Kd.C_drew ?_))); (case side2 => exact HC0.out); rintro e w28 ⟨rfl, hb⟩; refine ⟨_, rfl, ?_⟩; have n0_ := Aside0.mk (below_step (by repeat (first | (with_reducible first | exact HB.out | apply below_alloc | apply pw_below_drewN | apply below_drew1) | exact HB.out)) hb); clear HB; have HB := n0_; clear n0_; (try clear hb); (try clear hb2); (try clear hk); (try clear hi)))
                        go_ret
                        exact ⟨by first | rfl | (simp [errW_none, errW_some] <;> rfl) | (simp [*, errW_none, errW_some] <;> rfl), by repeat (first | (with_reducible first | exact HB.out | apply below_alloc | apply pw_below_drewN | apply below_drew1) | exact HB.out)⟩
                      · rw [if_neg c27] at H
                        exact absurd H (by simp)
                    · rw [if_neg c26] at H
                      exact absurd H (by simp)
                  · rw [if_neg c25] at H
                    exact absurd H (by simp)
                · replace c24 := Bool.eq_false_iff.mpr c24
                  subst c24
                  have H1 : (none) = some r := by rw [if_neg (show ¬ (false = true) by decide)] at H; exact H
                  clear H
                  have H := H1
                  clear H1
                  exact absurd H (by simp)

/-! ### epactlaw22_ScaleEnds: function 6 -/
def epactlaw22_ScaleEnds.j0 : Nat → Int → Bool → Int → Int → Int → Bool → Option (Bool)
  | 0, _, _, _, _, _, _ => none
  | k + 1, x1, x5, x6, x7, x8, x58 => if x58 = true then (if x5 = true then (some (x8 == 10)) else (none)) else (if x1 < 253339142100 then (if x8 = 0 then (if x5 = true then (if x8 = 9 then (some true) else (if x6 ≥ 730 then (if x6 ≤ 2932896 then (if x7 ≥ 0 then (some (decide (x7 ≤ 86400))) else (none)) else (none)) else (none))) else (none)) else (none)) else (if x5 = true then (if x8 = 9 then (some true) else (if x8 = 0 then (if x6 ≥ 730 then (if x6 ≤ 2932896 then (if x7 ≥ 0 then (some (decide (x7 ≤ 86400))) else (none)) else (none)) else (none)) else (none))) else (none)))
def epactlaw22_ScaleEnds.f (k : Nat) (l0 : List (S45)) (a1 : Int) : Option (Bool) := (epactlaw22_small.f k).bind fun t416 => (if (l0.length : Int) > 300 then (some t416) else ((scale_Utc.f k l0 a1).bind fun bt417 => ((scale_Known.f k l0).bind fun t420 => ((scale_End.f k l0).bind fun bt421 => (if t420 = true then (if a1 < 0 then (if t416 = true then (some (bt417.2.2 == 9)) else (none)) else (if bt421.2 = true then (epactlaw22_ScaleEnds.j0 k a1 t416 bt417.1 bt417.2.1 bt417.2.2 (decide (a1 ≥ bt421.1))) else (epactlaw22_ScaleEnds.j0 k a1 t416 bt417.1 bt417.2.1 bt417.2.2 false))) else (if t416 = true then (if bt417.2.2 = 1 then (if bt421.2 = true then (none) else (some (bt421.1 == 0))) else (none)) else (none)))))))
theorem epactlaw22_ScaleEnds.mono_l : ∀ k, (∀ y0 y1 y2 y3 y4 y5, LeO (epactlaw22_ScaleEnds.j0 k y0 y1 y2 y3 y4 y5) (epactlaw22_ScaleEnds.j0 (k + 1) y0 y1 y2 y3 y4 y5))
  | 0 => fun _ _ _ _ _ _ r h => by simp [epactlaw22_ScaleEnds.j0] at h
  | k + 1 => by
    have ih0 := epactlaw22_ScaleEnds.mono_l k
    · intro y0 y1 y2 y3 y4 y5
      unfold epactlaw22_ScaleEnds.j0
      repeat' first
      | (with_reducible exact ih0 _ _ _ _ _ _)
      | (with_reducible exact epactlaw22_small.mono _)
      | (with_reducible exact scale_End.mono _ _)
      | (with_reducible exact scale_Known.mono _ _)
      | (with_reducible exact scale_Utc.mono _ _ _)
      | (with_reducible exact LeO.refl _)
      | (with_reducible exact LeO.none _)
      | (with_reducible refine LeO.ite ?_ ?_)
      | (with_reducible refine LeO.bind ?_ (fun _ => ?_))
      | exact ih0 _ _ _ _ _ _
      | exact epactlaw22_small.mono _
      | exact scale_End.mono _ _
      | exact scale_Known.mono _ _
      | exact scale_Utc.mono _ _ _
      | exact LeO.none _
      | refine LeO.ite ?_ ?_
      | refine LeO.bind ?_ (fun _ => ?_)
theorem epactlaw22_ScaleEnds.mono : ∀ a0 a1 k, LeO (epactlaw22_ScaleEnds.f k a0 a1) (epactlaw22_ScaleEnds.f (k + 1) a0 a1) := by
  intro a0 a1 k
  have ih0 := epactlaw22_ScaleEnds.mono_l k
  unfold epactlaw22_ScaleEnds.f
  repeat' first
      | (with_reducible exact ih0 _ _ _ _ _ _)
      | (with_reducible exact epactlaw22_small.mono _)
      | (with_reducible exact scale_End.mono _ _)
      | (with_reducible exact scale_Known.mono _ _)
      | (with_reducible exact scale_Utc.mono _ _ _)
      | (with_reducible exact LeO.refl _)
      | (with_reducible exact LeO.none _)
      | (with_reducible refine LeO.ite ?_ ?_)
      | (with_reducible refine LeO.bind ?_ (fun _ => ?_))
      | exact ih0 _ _ _ _ _ _
      | exact epactlaw22_small.mono _
      | exact scale_End.mono _ _
      | exact scale_Known.mono _ _
      | exact scale_Utc.mono _ _ _
      | exact LeO.none _
      | refine LeO.ite ?_ ?_
      | refine LeO.bind ?_ (fun _ => ?_)
set_option maxHeartbeats 8000000 in
set_option maxRecDepth 100000 in
theorem epactlaw22_ScaleEnds.calls (k : Nat) (A0 : Option Addr) (c0 : Nat) (l0 : List (S45)) (a1 : Int) (r : Bool) (w : World) (hr0 : Kd.C k45 w A0 l0.length l0) (hc0 : l0.length ≤ c0) (h : epactlaw22_ScaleEnds.f k l0 a1 = some r) :
    Calls Try.prog 6 #[.slice A0 l0.length c0, .int .i64 a1] w fun e w' => e = .returned (.bool r) ∧ Below w.heap.size w w' := by
  have HR0 := Aside0.mk hr0
  have HC0 := Aside0.mk hc0
  clear hr0 hc0
  have HB := Aside0.mk (Below.refl w.heap.size w)
  have H : ((epactlaw22_small.f k).bind fun t416 => (if (l0.length : Int) > 300 then (some t416) else ((scale_Utc.f k l0 a1).bind fun bt417 => ((scale_Known.f k l0).bind fun t420 => ((scale_End.f k l0).bind fun bt421 => (if t420 = true then (if a1 < 0 then (if t416 = true then (some (bt417.2.2 == 9)) else (none)) else (if bt421.2 = true then (epactlaw22_ScaleEnds.j0 k a1 t416 bt417.1 bt417.2.1 bt417.2.2 (decide (a1 ≥ bt421.1))) else (epactlaw22_ScaleEnds.j0 k a1 t416 bt417.1 bt417.2.1 bt417.2.2 false))) else (if t416 = true then (if bt417.2.2 = 1 then (if bt421.2 = true then (none) else (some (bt421.1 == 0))) else (none)) else (none)))))))) = some r := h
  clear h
  replace H := Option.bind_eq_some_iff.mp H
  obtain ⟨t416, A30, H⟩ := H
  replace H : (if (l0.length : Int) > 300 then (some t416) else ((scale_Utc.f k l0 a1).bind fun bt417 => ((scale_Known.f k l0).bind fun t420 => ((scale_End.f k l0).bind fun bt421 => (if t420 = true then (if a1 < 0 then (if t416 = true then (some (bt417.2.2 == 9)) else (none)) else (if bt421.2 = true then (epactlaw22_ScaleEnds.j0 k a1 t416 bt417.1 bt417.2.1 bt417.2.2 (decide (a1 ≥ bt421.1))) else (epactlaw22_ScaleEnds.j0 k a1 t416 bt417.1 bt417.2.1 bt417.2.2 false))) else (if t416 = true then (if bt417.2.2 = 1 then (if bt421.2 = true then (none) else (some (bt421.1 == 0))) else (none)) else (none))))))) = some r := H
  have A3 := Aside0.mk A30
  clear A30
  by_cases c4 : (l0.length : Int) > 300
  · rw [if_pos c4] at H
    have c4b0 : decide (300 < (l0.length : Int)) = true := decide_eq_true c4
    have c4b1 : decide (300 < l0.length) = true := decide_eq_true (by omega)
    clear c4
    obtain rfl := Option.some.inj H
    go_enter Try.func6, Try.ntmps6
    go_wp2_with (first | ((with_reducible refine gate_callee (f := 9) rfl ?_); refine goesL_ (some 12) rfl rfl Try.func9 (by kernel_rfl) rfl #[] rfl (by (try simp only [List.map_toArray, List.map_cons, List.map_nil]); first | done | rfl | (simp only [List.length_drop, List.length_take]; rfl)) ?_; (with_reducible refine (epactlaw22_small.calls k  t416 _ A3.out).mono ?_); rintro e w5 ⟨rfl, hb⟩; refine ⟨_, rfl, ?_⟩; have n0_ := Aside0.mk (below_step (by repeat (first | (with_reducible first | exact HB.out | apply below_alloc | apply pw_below_drewN | apply below_drew1) | exact HB.out)) hb); clear HB; have HB := n0_; clear n0_; (try clear hb); (try clear hb2); (try clear hk); (try clear hi)))
    go_ret
    exact ⟨by first | rfl | (simp [errW_none, errW_some] <;> rfl) | (simp [*, errW_none, errW_some] <;> rfl), by repeat (first | (with_reducible first | exact HB.out | apply below_alloc | apply pw_below_drewN | apply below_drew1) | exact HB.out)⟩
  · rw [if_neg c4] at H
    have c4b0 : decide (300 < (l0.length : Int)) = false := decide_eq_false c4
    have c4b1 : decide (300 < l0.length) = false := decide_eq_false (by omega)
    clear c4
    replace H := Option.bind_eq_some_iff.mp H
    obtain ⟨⟨t417, t418, t419⟩, A60, H⟩ := H
    replace H : ((scale_Known.f k l0).bind fun t420 => ((scale_End.f k l0).bind fun bt421 => (if t420 = true then (if a1 < 0 then (if t416 = true then (some (t419 == 9)) else (none)) else (if bt421.2 = true then (epactlaw22_ScaleEnds.j0 k a1 t416 t417 t418 t419 (decide (a1 ≥ bt421.1))) else (epactlaw22_ScaleEnds.j0 k a1 t416 t417 t418 t419 false))) else (if t416 = true then (if t419 = 1 then (if bt421.2 = true then (none) else (some (bt421.1 == 0))) else (none)) else (none))))) = some r := H
    have A6 := Aside0.mk A60
    clear A60
    replace H := Option.bind_eq_some_iff.mp H
    obtain ⟨t420, A70, H⟩ := H
    replace H : ((scale_End.f k l0).bind fun bt421 => (if t420 = true then (if a1 < 0 then (if t416 = true then (some (t419 == 9)) else (none)) else (if bt421.2 = true then (epactlaw22_ScaleEnds.j0 k a1 t416 t417 t418 t419 (decide (a1 ≥ bt421.1))) else (epactlaw22_ScaleEnds.j0 k a1 t416 t417 t418 t419 false))) else (if t416 = true then (if t419 = 1 then (if bt421.2 = true then (none) else (some (bt421.1 == 0))) else (none)) else (none)))) = some r := H
    have A7 := Aside0.mk A70
    clear A70
    replace H := Option.bind_eq_some_iff.mp H
    obtain ⟨⟨t421, t422⟩, A80, H⟩ := H
    replace H : (if t420 = true then (if a1 < 0 then (if t416 = true then (some (t419 == 9)) else (none)) else (if t422 = true then (epactlaw22_ScaleEnds.j0 k a1 t416 t417 t418 t419 (decide (a1 ≥ t421))) else (epactlaw22_ScaleEnds.j0 k a1 t416 t417 t418 t419 false))) else (if t416 = true then (if t419 = 1 then (if t422 = true then (none) else (some (t421 == 0))) else (none)) else (none))) = some r := H
    have A8 := Aside0.mk A80
    clear A80
    by_cases c9 : t420 = true
    · subst c9
      have H1 : (if a1 < 0 then (if t416 = true then (some (t419 == 9)) else (none)) else (if t422 = true then (epactlaw22_ScaleEnds.j0 k a1 t416 t417 t418 t419 (decide (a1 ≥ t421))) else (epactlaw22_ScaleEnds.j0 k a1 t416 t417 t418 t419 false))) = some r := by rw [if_pos rfl] at H; exact H
      clear H
      have H := H1
      clear H1
      by_cases c10 : a1 < 0
      · rw [if_pos c10] at H
        have c10b0 : decide (a1 < 0) = true := decide_eq_true c10
        clear c10
        by_cases c11 : t416 = true
        · subst c11
          have H1 : (some (t419 == 9)) = some r := by rw [if_pos rfl] at H; exact H
          clear H
          have H := H1
          clear H1
          obtain rfl := Option.some.inj H
          go_enter Try.func6, Try.ntmps6
          go_wp2_with (first | ((with_reducible refine gate_callee (f := 9) rfl ?_); refine goesL_ (some 12) rfl rfl Try.func9 (by kernel_rfl) rfl #[] rfl (by (try simp only [List.map_toArray, List.map_cons, List.map_nil]); first | done | rfl | (simp only [List.length_drop, List.length_take]; rfl)) ?_; (with_reducible refine (epactlaw22_small.calls k  true _ A3.out).mono ?_); rintro e w12 ⟨rfl, hb⟩; refine ⟨_, rfl, ?_⟩; have n0_ := Aside0.mk (below_step (by repeat (first | (with_reducible first | exact HB.out | apply below_alloc | apply pw_below_drewN | apply below_drew1) | exact HB.out)) hb); clear HB; have HB := n0_; clear n0_; (try clear hb); (try clear hb2); (try clear hk); (try clear hi)) | ((with_reducible refine gate_callee (f := 10) rfl ?_); refine goesL_ (some 20) rfl rfl Try.func10 (by kernel_rfl) rfl #[.slice A0 l0.length c0, .int .i64 a1] rfl (by (try simp only [List.map_toArray, List.map_cons, List.map_nil]); first | done | rfl | (simp only [List.length_drop, List.length_take]; rfl)) ?_; (with_reducible refine (scale_Utc.calls k _ _ l0 a1 t417 t418 t419 _ ?side1 ?side2 A6.out).mono ?_); (case side1 => repeat (first | exact (Kd.C_below HR0.out HB.out) | (with_reducible refine Kd.C_alloc ?_ _) | (with_reducible refine Kd.C_drewN ?_ _) | (with_reducible refine Kd.C_drew ?_))); (case side2 => exact HC0.out); rintro e w13 ⟨rfl, hb⟩; refine ⟨_, rfl, ?_⟩; have n0_ := Aside0.mk (below_step (by repeat (first | (with_reducible first | exact HB.out | apply below_alloc | apply pw_below_drewN | apply below_drew1) | exact HB.out)) hb); clear HB; have HB := n0_; clear n0_; (try clear hb); (try clear hb2); (try clear hk); (try clear hi)) | ((with_reducible refine gate_callee (f := 18) rfl ?_); refine goesL_ (some 25) rfl rfl Try.func18 (by kernel_rfl) rfl #[.slice A0 l0.length c0] rfl (by (try simp only [List.map_toArray, List.map_cons, List.map_nil]); first | done | rfl | (simp only [List.length_drop, List.length_take]; rfl)) ?_; (with_reducible refine (scale_Known.calls k _ _ l0 true _ ?side1 ?side2 A7.out).mono ?_); (case side1 => repeat (first | exact (Kd.C_below HR0.out HB.out) | (with_reducible refine Kd.C_alloc ?_ _) | (with_reducible refine Kd.C_drewN ?_ _) | (with_reducible refine Kd.C_drew ?_))); (case side2 => exact HC0.out); rintro e w14 ⟨rfl, hb⟩; refine ⟨_, rfl, ?_⟩; have n0_ := Aside0.mk (below_step (by repeat (first | (with_reducible first | exact HB.out | apply below_alloc | apply pw_below_drewN | apply below_drew1) | exact HB.out)) hb); clear HB; have HB := n0_; clear n0_; (try clear hb); (try clear hb2); (try clear hk); (try clear hi)) | ((with_reducible refine gate_callee (f := 16) rfl ?_); refine goesL_ (some 28) rfl rfl Try.func16 (by kernel_rfl) rfl #[.slice A0 l0.length c0] rfl (by (try simp only [List.map_toArray, List.map_cons, List.map_nil]); first | done | rfl | (simp only [List.length_drop, List.length_take]; rfl)) ?_; (with_reducible refine (scale_End.calls k _ _ l0 t421 t422 _ ?side1 ?side2 A8.out).mono ?_); (case side1 => repeat (first | exact (Kd.C_below HR0.out HB.out) | (with_reducible refine Kd.C_alloc ?_ _) | (with_reducible refine Kd.C_drewN ?_ _) | (with_reducible refine Kd.C_drew ?_))); (case side2 => exact HC0.out); rintro e w15 ⟨rfl, hb⟩; refine ⟨_, rfl, ?_⟩; have n0_ := Aside0.mk (below_step (by repeat (first | (with_reducible first | exact HB.out | apply below_alloc | apply pw_below_drewN | apply below_drew1) | exact HB.out)) hb); clear HB; have HB := n0_; clear n0_; (try clear hb); (try clear hb2); (try clear hk); (try clear hi)))
          go_ret
          exact ⟨by first | rfl | (simp [errW_none, errW_some] <;> rfl) | (simp [*, errW_none, errW_some] <;> rfl), by repeat (first | (with_reducible first | exact HB.out | apply below_alloc | apply pw_below_drewN | apply below_drew1) | exact HB.out)⟩
        · replace c11 := Bool.eq_false_iff.mpr c11
          subst c11
          have H1 : (none) = some r := by rw [if_neg (show ¬ (false = true) by decide)] at H; exact H
          clear H
          have H := H1
          clear H1
          exact absurd H (by simp)
      · rw [if_neg c10] at H
        have c10b0 : decide (a1 < 0) = false := decide_eq_false c10
        clear c10
        have HC16 := Aside0.mk H
        clear H
        go_enter Try.func6, Try.ntmps6
        go_upto_region 11 with (first | ((with_reducible refine gate_callee (f := 9) rfl ?_); refine goesL_ (some 12) rfl rfl Try.func9 (by kernel_rfl) rfl #[] rfl (by (try simp only [List.map_toArray, List.map_cons, List.map_nil]); first | done | rfl | (simp only [List.length_drop, List.length_take]; rfl)) ?_; (with_reducible refine (epactlaw22_small.calls k  t416 _ A3.out).mono ?_); rintro e w17 ⟨rfl, hb⟩; refine ⟨_, rfl, ?_⟩; have n0_ := Aside0.mk (below_step (by repeat (first | (with_reducible first | exact HB.out | apply below_alloc | apply pw_below_drewN | apply below_drew1) | exact HB.out)) hb); clear HB; have HB := n0_; clear n0_; (try clear hb); (try clear hb2); (try clear hk); (try clear hi)) | ((with_reducible refine gate_callee (f := 10) rfl ?_); refine goesL_ (some 20) rfl rfl Try.func10 (by kernel_rfl) rfl #[.slice A0 l0.length c0, .int .i64 a1] rfl (by (try simp only [List.map_toArray, List.map_cons, List.map_nil]); first | done | rfl | (simp only [List.length_drop, List.length_take]; rfl)) ?_; (with_reducible refine (scale_Utc.calls k _ _ l0 a1 t417 t418 t419 _ ?side1 ?side2 A6.out).mono ?_); (case side1 => repeat (first | exact (Kd.C_below HR0.out HB.out) | (with_reducible refine Kd.C_alloc ?_ _) | (with_reducible refine Kd.C_drewN ?_ _) | (with_reducible refine Kd.C_drew ?_))); (case side2 => exact HC0.out); rintro e w18 ⟨rfl, hb⟩; refine ⟨_, rfl, ?_⟩; have n0_ := Aside0.mk (below_step (by repeat (first | (with_reducible first | exact HB.out | apply below_alloc | apply pw_below_drewN | apply below_drew1) | exact HB.out)) hb); clear HB; have HB := n0_; clear n0_; (try clear hb); (try clear hb2); (try clear hk); (try clear hi)) | ((with_reducible refine gate_callee (f := 18) rfl ?_); refine goesL_ (some 25) rfl rfl Try.func18 (by kernel_rfl) rfl #[.slice A0 l0.length c0] rfl (by (try simp only [List.map_toArray, List.map_cons, List.map_nil]); first | done | rfl | (simp only [List.length_drop, List.length_take]; rfl)) ?_; (with_reducible refine (scale_Known.calls k _ _ l0 true _ ?side1 ?side2 A7.out).mono ?_); (case side1 => repeat (first | exact (Kd.C_below HR0.out HB.out) | (with_reducible refine Kd.C_alloc ?_ _) | (with_reducible refine Kd.C_drewN ?_ _) | (with_reducible refine Kd.C_drew ?_))); (case side2 => exact HC0.out); rintro e w19 ⟨rfl, hb⟩; refine ⟨_, rfl, ?_⟩; have n0_ := Aside0.mk (below_step (by repeat (first | (with_reducible first | exact HB.out | apply below_alloc | apply pw_below_drewN | apply below_drew1) | exact HB.out)) hb); clear HB; have HB := n0_; clear n0_; (try clear hb); (try clear hb2); (try clear hk); (try clear hi)) | ((with_reducible refine gate_callee (f := 16) rfl ?_); refine goesL_ (some 28) rfl rfl Try.func16 (by kernel_rfl) rfl #[.slice A0 l0.length c0] rfl (by (try simp only [List.map_toArray, List.map_cons, List.map_nil]); first | done | rfl | (simp only [List.length_drop, List.length_take]; rfl)) ?_; (with_reducible refine (scale_End.calls k _ _ l0 t421 t422 _ ?side1 ?side2 A8.out).mono ?_); (case side1 => repeat (first | exact (Kd.C_below HR0.out HB.out) | (with_reducible refine Kd.C_alloc ?_ _) | (with_reducible refine Kd.C_drewN ?_ _) | (with_reducible refine Kd.C_drew ?_))); (case side2 => exact HC0.out); rintro e w20 ⟨rfl, hb⟩; refine ⟨_, rfl, ?_⟩; have n0_ := Aside0.mk (below_step (by repeat (first | (with_reducible first | exact HB.out | apply below_alloc | apply pw_below_drewN | apply below_drew1) | exact HB.out)) hb); clear HB; have HB := n0_; clear n0_; (try clear hb); (try clear hb2); (try clear hk); (try clear hi)))
        (try simp only [Act.put, List.setIfInBounds_toArray, List.set_cons_zero, List.set_cons_succ])
        go_cut [58] (fun v58 wc => ∃ (kq : Nat) (x58_15 : Bool), v58 = .bool x58_15 ∧ Aside0 (epactlaw22_ScaleEnds.j0 kq a1 t416 t417 t418 t419 x58_15 = some r) ∧ Aside0 (kq ≤ k) ∧ Aside0 (Below w.heap.size w wc))
        case first =>
          have H := HC16.out
          clear HC16
          by_cases c21 : t422 = true
          · subst c21
            have H1 : (epactlaw22_ScaleEnds.j0 k a1 t416 t417 t418 t419 (decide (a1 ≥ t421))) = some r := by rw [if_pos rfl] at H; exact H
            clear H
            have H := H1
            clear H1
            have H' := Aside0.mk H
            clear H
            go_wp2
            go_meet
            case rel => exact ⟨_, (decide (a1 ≥ t421)), (by first | rfl | (simp; done) | (simp [*]; done)), H', ⟨by first | omega | exact Nat.le_refl _⟩, ⟨by repeat (first | (with_reducible first | exact HB.out | apply below_alloc | apply pw_below_drewN | apply below_drew1) | exact HB.out)⟩⟩
          · replace c21 := Bool.eq_false_iff.mpr c21
            subst c21
            have H1 : (epactlaw22_ScaleEnds.j0 k a1 t416 t417 t418 t419 false) = some r := by rw [if_neg (show ¬ (false = true) by decide)] at H; exact H
            clear H
            have H := H1
            clear H1
            have H' := Aside0.mk H
            clear H
            go_wp2
            go_meet
            case rel => exact ⟨_, (false), (by first | rfl | (simp; done) | (simp [*]; done)), H', ⟨by first | omega | exact Nat.le_refl _⟩, ⟨by repeat (first | (with_reducible first | exact HB.out | apply below_alloc | apply pw_below_drewN | apply below_drew1) | exact HB.out)⟩⟩
        case rest =>
          clear HC16
          try clear c1
          try clear c2
          try clear p2
          try clear c4
          try clear c4b0
          try clear c4b1
          try clear c6
          try clear c9
          try clear c10
          try clear c10b0
          try clear c11
          try clear c16
          try clear c18
          try clear c21
          obtain ⟨kq, x58_15, rfl, HA, HJ15, HB⟩ := hcut
          cases kq with
          | zero => exact absurd HA.out (by simp [epactlaw22_ScaleEnds.j0])
          | succ kj15 =>
            have H := HA.out
            clear HA
            simp only [epactlaw22_ScaleEnds.j0] at H
            by_cases c22 : x58_15 = true
            · subst c22
              have H1 : (if t416 = true then (some (t419 == 10)) else (none)) = some r := by rw [if_pos rfl] at H; exact H
              clear H
              have H := H1
              clear H1
              by_cases c23 : t416 = true
              · subst c23
                have H1 : (some (t419 == 10)) = some r := by rw [if_pos rfl] at H; exact H
                clear H
                have H := H1
                clear H1
                obtain rfl := Option.some.inj H
                go_wp2
                go_ret
                exact ⟨by first | rfl | (simp [errW_none, errW_some] <;> rfl) | (simp [*, errW_none, errW_some] <;> rfl), by repeat (first | (with_reducible first | exact HB.out | apply below_alloc | apply pw_below_drewN | apply below_drew1) | exact HB.out)⟩
              · replace c23 := Bool.eq_false_iff.mpr c23
                subst c23
                have H1 : (none) = some r := by rw [if_neg (show ¬ (false = true) by decide)] at H; exact H
                clear H
                have H := H1
                clear H1
                exact absurd H (by simp)
            · replace c22 := Bool.eq_false_iff.mpr c22
              subst c22
              have H1 : (if a1 < 253339142100 then (if t419 = 0 then (if t416 = true then (if t419 = 9 then (some true) else (if t417 ≥ 730 then (if t417 ≤ 2932896 then (if t418 ≥ 0 then (some (decide (t418 ≤ 86400))) else (none)) else (none)) else (none))) else (none)) else (none)) else (if t416 = true then (if t419 = 9 then (some true) else (if t419 = 0 then (if t417 ≥ 730 then (if t417 ≤ 2932896 then (if t418 ≥ 0 then (some (decide (t418 ≤ 86400))) else (none)) else (none)) else (none)) else (none))) else (none))) = some r := by rw [if_neg (show ¬ (false = true) by decide)] at H; exact H
              clear H
              have H := H1
              clear H1
              by_cases c24 : a1 < 253339142100
              · rw [if_pos c24] at H
                have c24b0 : decide (a1 < 253339142100) = true := decide_eq_true c24
                clear c24
                by_cases c25 : t419 = 0
                · rw [if_pos c25] at H
                  have c25b0 : (t419 == 0) = true := beq_iff_eq.mpr c25
                  have c25b1 : (t419 != 0) = false := bne_eq_false_iff_eq.mpr c25
                  clear c25
                  by_cases c26 : t416 = true
                  · subst c26
                    have H1 : (if t419 = 9 then (some true) else (if t417 ≥ 730 then (if t417 ≤ 2932896 then (if t418 ≥ 0 then (some (decide (t418 ≤ 86400))) else (none)) else (none)) else (none))) = some r := by rw [if_pos rfl] at H; exact H
                    clear H
                    have H := H1
                    clear H1
                    by_cases c27 : t419 = 9
                    · rw [if_pos c27] at H
                      have c27b0 : (t419 == 9) = true := beq_iff_eq.mpr c27
                      have c27b1 : (t419 != 9) = false := bne_eq_false_iff_eq.mpr c27
                      clear c27
                      obtain rfl := Option.some.inj H
                      go_wp2
                      go_ret
                      exact ⟨by first | rfl | (simp [errW_none, errW_some] <;> rfl) | (simp [*, errW_none, errW_some] <;> rfl), by repeat (first | (with_reducible first | exact HB.out | apply below_alloc | apply pw_below_drewN | apply below_drew1) | exact HB.out)⟩
                    · rw [if_neg c27] at H
                      have c27b0 : (t419 == 9) = false := beq_eq_false_iff_ne.mpr c27
                      have c27b1 : (t419 != 9) = true := bne_iff_ne.mpr c27
                      by_cases c28 : t417 ≥ 730
                      · rw [if_pos c28] at H
                        have c28b0 : decide (730 ≤ t417) = true := decide_eq_true c28
                        clear c28
                        by_cases c29 : t417 ≤ 2932896
                        · rw [if_pos c29] at H
                          have c29b0 : decide (t417 ≤ 2932896) = true := decide_eq_true c29
                          clear c29
                          by_cases c30 : t418 ≥ 0
                          · rw [if_pos c30] at H
                            have c30b0 : decide (0 ≤ t418) = true := decide_eq_true c30
                            clear c30
                            obtain rfl := Option.some.inj H
                            go_wp2
                            go_ret
                            exact ⟨by first | rfl | (simp [errW_none, errW_some] <;> rfl) | (simp [*, errW_none, errW_some] <;> rfl), by repeat (first | (with_reducible first | exact HB.out | apply below_alloc | apply pw_below_drewN | apply below_drew1) | exact HB.out)⟩
                          · rw [if_neg c30] at H
                            exact absurd H (by simp)
                        · rw [if_neg c29] at H
                          exact absurd H (by simp)
                      · rw [if_neg c28] at H
                        exact absurd H (by simp)
                  · replace c26 := Bool.eq_false_iff.mpr c26
                    subst c26
                    have H1 : (none) = some r := by rw [if_neg (show ¬ (false = true) by decide)] at H; exact H
                    clear H
                    have H := H1
                    clear H1
                    exact absurd H (by simp)
                · rw [if_neg c25] at H
                  exact absurd H (by simp)
              · rw [if_neg c24] at H
                have c24b0 : decide (a1 < 253339142100) = false := decide_eq_false c24
                clear c24
                by_cases c31 : t416 = true
                · subst c31
                  have H1 : (if t419 = 9 then (some true) else (if t419 = 0 then (if t417 ≥ 730 then (if t417 ≤ 2932896 then (if t418 ≥ 0 then (some (decide (t418 ≤ 86400))) else (none)) else (none)) else (none)) else (none))) = some r := by rw [if_pos rfl] at H; exact H
                  clear H
                  have H := H1
                  clear H1
                  by_cases c32 : t419 = 9
                  · rw [if_pos c32] at H
                    have c32b0 : (t419 == 9) = true := beq_iff_eq.mpr c32
                    have c32b1 : (t419 != 9) = false := bne_eq_false_iff_eq.mpr c32
                    clear c32
                    obtain rfl := Option.some.inj H
                    go_wp2
                    go_ret
                    exact ⟨by first | rfl | (simp [errW_none, errW_some] <;> rfl) | (simp [*, errW_none, errW_some] <;> rfl), by repeat (first | (with_reducible first | exact HB.out | apply below_alloc | apply pw_below_drewN | apply below_drew1) | exact HB.out)⟩
                  · rw [if_neg c32] at H
                    have c32b0 : (t419 == 9) = false := beq_eq_false_iff_ne.mpr c32
                    have c32b1 : (t419 != 9) = true := bne_iff_ne.mpr c32
                    by_cases c33 : t419 = 0
                    · rw [if_pos c33] at H
                      have c33b0 : (t419 == 0) = true := beq_iff_eq.mpr c33
                      have c33b1 : (t419 != 0) = false := bne_eq_false_iff_eq.mpr c33
                      clear c33
                      by_cases c34 : t417 ≥ 730
                      · rw [if_pos c34] at H
                        have c34b0 : decide (730 ≤ t417) = true := decide_eq_true c34
                        clear c34
                        by_cases c35 : t417 ≤ 2932896
                        · rw [if_pos c35] at H
                          have c35b0 : decide (t417 ≤ 2932896) = true := decide_eq_true c35
                          clear c35
                          by_cases c36 : t418 ≥ 0
                          · rw [if_pos c36] at H
                            have c36b0 : decide (0 ≤ t418) = true := decide_eq_true c36
                            clear c36
                            obtain rfl := Option.some.inj H
                            go_wp2
                            go_ret
                            exact ⟨by first | rfl | (simp [errW_none, errW_some] <;> rfl) | (simp [*, errW_none, errW_some] <;> rfl), by repeat (first | (with_reducible first | exact HB.out | apply below_alloc | apply pw_below_drewN | apply below_drew1) | exact HB.out)⟩
                          · rw [if_neg c36] at H
                            exact absurd H (by simp)
                        · rw [if_neg c35] at H
                          exact absurd H (by simp)
                      · rw [if_neg c34] at H
                        exact absurd H (by simp)
                    · rw [if_neg c33] at H
                      exact absurd H (by simp)
                · replace c31 := Bool.eq_false_iff.mpr c31
                  subst c31
                  have H1 : (none) = some r := by rw [if_neg (show ¬ (false = true) by decide)] at H; exact H
                  clear H
                  have H := H1
                  clear H1
                  exact absurd H (by simp)
    · replace c9 := Bool.eq_false_iff.mpr c9
      subst c9
      have H1 : (if t416 = true then (if t419 = 1 then (if t422 = true then (none) else (some (t421 == 0))) else (none)) else (none)) = some r := by rw [if_neg (show ¬ (false = true) by decide)] at H; exact H
      clear H
      have H := H1
      clear H1
      by_cases c37 : t416 = true
      · subst c37
        have H1 : (if t419 = 1 then (if t422 = true then (none) else (some (t421 == 0))) else (none)) = some r := by rw [if_pos rfl] at H; exact H
        clear H
        have H := H1
        clear H1
        by_cases c38 : t419 = 1
        · rw [if_pos c38] at H
          have c38b0 : (t419 == 1) = true := beq_iff_eq.mpr c38
          have c38b1 : (t419 != 1) = false := bne_eq_false_iff_eq.mpr c38
          clear c38
          by_cases c39 : t422 = true
          · subst c39
            have H1 : (none) = some r := by rw [if_pos rfl] at H; exact H
            clear H
            have H := H1
            clear H1
            exact absurd H (by simp)
          · replace c39 := Bool.eq_false_iff.mpr c39
            subst c39
            have H1 : (some (t421 == 0)) = some r := by rw [if_neg (show ¬ (false = true) by decide)] at H; exact H
            clear H
            have H := H1
            clear H1
            obtain rfl := Option.some.inj H
            go_enter Try.func6, Try.ntmps6
            go_wp2_with (first | ((with_reducible refine gate_callee (f := 9) rfl ?_); refine goesL_ (some 12) rfl rfl Try.func9 (by kernel_rfl) rfl #[] rfl (by (try simp only [List.map_toArray, List.map_cons, List.map_nil]); first | done | rfl | (simp only [List.length_drop, List.length_take]; rfl)) ?_; (with_reducible refine (epactlaw22_small.calls k  true _ A3.out).mono ?_); rintro e w40 ⟨rfl, hb⟩; refine ⟨_, rfl, ?_⟩; have n0_ := Aside0.mk (below_step (by repeat (first | (with_reducible first | exact HB.out | apply below_alloc | apply pw_below_drewN | apply below_drew1) | exact HB.out)) hb); clear HB; have HB := n0_; clear n0_; (try clear hb); (try clear hb2); (try clear hk); (try clear hi)) | ((with_reducible refine gate_callee (f := 10) rfl ?_); refine goesL_ (some 20) rfl rfl Try.func10 (by kernel_rfl) rfl #[.slice A0 l0.length c0, .int .i64 a1] rfl (by (try simp only [List.map_toArray, List.map_cons, List.map_nil]); first | done | rfl | (simp only [List.length_drop, List.length_take]; rfl)) ?_; (with_reducible refine (scale_Utc.calls k _ _ l0 a1 t417 t418 t419 _ ?side1 ?side2 A6.out).mono ?_); (case side1 => repeat (first | exact (Kd.C_below HR0.out HB.out) | (with_reducible refine Kd.C_alloc ?_ _) | (with_reducible refine Kd.C_drewN ?_ _) | (with_reducible refine Kd.C_drew ?_))); (case side2 => exact HC0.out); rintro e w41 ⟨rfl, hb⟩; refine ⟨_, rfl, ?_⟩; have n0_ := Aside0.mk (below_step (by repeat (first | (with_reducible first | exact HB.out | apply below_alloc | apply pw_below_drewN | apply below_drew1) | exact HB.out)) hb); clear HB; have HB := n0_; clear n0_; (try clear hb); (try clear hb2); (try clear hk); (try clear hi)) | ((with_reducible refine gate_callee (f := 18) rfl ?_); refine goesL_ (some 25) rfl rfl Try.func18 (by kernel_rfl) rfl #[.slice A0 l0.length c0] rfl (by (try simp only [List.map_toArray, List.map_cons, List.map_nil]); first | done | rfl | (simp only [List.length_drop, List.length_take]; rfl)) ?_; (with_reducible refine (scale_Known.calls k _ _ l0 false _ ?side1 ?side2 A7.out).mono ?_); (case side1 => repeat (first | exact (Kd.C_below HR0.out HB.out) | (with_reducible refine Kd.C_alloc ?_ _) | (with_reducible refine Kd.C_drewN ?_ _) | (with_reducible refine Kd.C_drew ?_))); (case side2 => exact HC0.out); rintro e w42 ⟨rfl, hb⟩; refine ⟨_, rfl, ?_⟩; have n0_ := Aside0.mk (below_step (by repeat (first | (with_reducible first | exact HB.out | apply below_alloc | apply pw_below_drewN | apply below_drew1) | exact HB.out)) hb); clear HB; have HB := n0_; clear n0_; (try clear hb); (try clear hb2); (try clear hk); (try clear hi)) | ((with_reducible refine gate_callee (f := 16) rfl ?_); refine goesL_ (some 28) rfl rfl Try.func16 (by kernel_rfl) rfl #[.slice A0 l0.length c0] rfl (by (try simp only [List.map_toArray, List.map_cons, List.map_nil]); first | done | rfl | (simp only [List.length_drop, List.length_take]; rfl)) ?_; (with_reducible refine (scale_End.calls k _ _ l0 t421 false _ ?side1 ?side2 A8.out).mono ?_); (case side1 => repeat (first | exact (Kd.C_below HR0.out HB.out) | (with_reducible refine Kd.C_alloc ?_ _) | (with_reducible refine Kd.C_drewN ?_ _) | (with_reducible refine Kd.C_drew ?_))); (case side2 => exact HC0.out); rintro e w43 ⟨rfl, hb⟩; refine ⟨_, rfl, ?_⟩; have n0_ := Aside0.mk (below_step (by repeat (first | (with_reducible first | exact HB.out | apply below_alloc | apply pw_below_drewN | apply below_drew1) | exact HB.out)) hb); clear HB; have HB := n0_; clear n0_; (try clear hb); (try clear hb2); (try clear hk); (try clear hi)))
            go_ret
            exact ⟨by first | rfl | (simp [errW_none, errW_some] <;> rfl) | (simp [*, errW_none, errW_some] <;> rfl), by repeat (first | (with_reducible first | exact HB.out | apply below_alloc | apply pw_below_drewN | apply below_drew1) | exact HB.out)⟩
        · rw [if_neg c38] at H
          exact absurd H (by simp)
      · replace c37 := Bool.eq_false_iff.mpr c37
        subst c37
        have H1 : (none) = some r := by rw [if_neg (show ¬ (false = true) by decide)] at H; exact H
        clear H
        have H := H1
        clear H1
        exact absurd H (by simp)

end Go.Proofs.Ythecldgopjaogaa.PAll
