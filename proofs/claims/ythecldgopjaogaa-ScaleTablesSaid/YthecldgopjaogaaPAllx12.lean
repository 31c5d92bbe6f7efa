-- Written for this claim by wip/tools of this repo (after the kit's print; own contracts laid in).
import Derived.Test.YthecldgopjaogaaPAllx0
import Derived.Test.YthecldgopjaogaaPAllx2
import Derived.Test.YthecldgopjaogaaPAllx3
import Derived.Test.YthecldgopjaogaaPAllx4
import Derived.Test.YthecldgopjaogaaPAllx5
namespace Go.Proofs.Ythecldgopjaogaa.PAll
open Go.RowKit Go.Proofs.YthecldgopjaogaaW.PrintWords Go.Proofs.YthecldgopjaogaaW.PrintLast Go.Proofs.YthecldgopjaogaaW.PrintMore
attribute [local go_sem] max2_int min2_int max_two min_two max_three min_three max_four min_four   -- for this text's walks alone
set_option linter.unusedVariables false
set_option linter.unusedSimpArgs false

/-! ### epactlaw22_ScaleSums: function 7 -/
mutual
def epactlaw22_ScaleSums.j0 : Nat → List (S45) → Int → Int → Bool → Bool → Option (Bool)
  | 0, _, _, _, _, _ => none
  | k + 1, x0, x1, x2, x7, x37 => if x37 = true then (some x7) else ((scale_End.f k x0).bind fun bt424 => (if bt424.2 = true then (epactlaw22_ScaleSums.j1 k x0 x1 x2 x7 true) else ((scale_Known.f k x0).bind fun t426 => (epactlaw22_ScaleSums.j1 k x0 x1 x2 x7 (!t426)))))
def epactlaw22_ScaleSums.j1 : Nat → List (S45) → Int → Int → Bool → Bool → Option (Bool)
  | 0, _, _, _, _, _ => none
  | k + 1, x0, x1, x2, x7, x49 => if x49 = true then (some x7) else ((scale_Tai.f k x0 x1 0).bind fun bt427 => ((scale_Tai.f k x0 (wrap64 (x1 + x2)) 0).bind fun bt429 => (epactlaw22_ScaleSums.l0 k x0 x1 x2 x7 bt427.1 bt427.2 bt429.1 bt429.2 0 0)))
def epactlaw22_ScaleSums.l0 : Nat → List (S45) → Int → Int → Bool → Int → Int → Int → Int → Int → Int → Option (Bool)
  | 0, _, _, _, _, _, _, _, _, _, _ => none
  | k + 1, x0, x1, x2, x7, x10, x11, x12, x13, x14, x15 => if x15 < x2 then ((scale_Length.f k x0 (wrap64 (x1 + x15))).bind fun bt431 => (if bt431.2 = 0 then (epactlaw22_ScaleSums.l0 k x0 x1 x2 x7 x10 x11 x12 x13 (wrap64 (x14 + bt431.1)) (wrap64 (x15 + 1))) else (none))) else (if x7 = true then (if x11 = 0 then (if x13 = 0 then (some ((wrap64 (x12 - x10)) == x14)) else (none)) else (none)) else (none))
end
def epactlaw22_ScaleSums.f (k : Nat) (l0 : List (S45)) (a1 : Int) (a2 : Int) : Option (Bool) := (epactlaw22_small.f k).bind fun t423 => (if (l0.length : Int) > 300 then (epactlaw22_ScaleSums.j0 k l0 a1 a2 t423 true) else (if a2 < 0 then (epactlaw22_ScaleSums.j0 k l0 a1 a2 t423 true) else (if a2 > 100 then (epactlaw22_ScaleSums.j0 k l0 a1 a2 t423 true) else (if a1 < 730 then (epactlaw22_ScaleSums.j0 k l0 a1 a2 t423 true) else (epactlaw22_ScaleSums.j0 k l0 a1 a2 t423 (decide (a1 > 2932796)))))))
theorem epactlaw22_ScaleSums.mono_l : ∀ k, (∀ y0 y1 y2 y3 y4, LeO (epactlaw22_ScaleSums.j0 k y0 y1 y2 y3 y4) (epactlaw22_ScaleSums.j0 (k + 1) y0 y1 y2 y3 y4)) ∧ (∀ y0 y1 y2 y3 y4, LeO (epactlaw22_ScaleSums.j1 k y0 y1 y2 y3 y4) (epactlaw22_ScaleSums.j1 (k + 1) y0 y1 y2 y3 y4)) ∧ (∀ y0 y1 y2 y3 y4 y5 y6 y7 y8 y9, LeO (epactlaw22_ScaleSums.l0 k y0 y1 y2 y3 y4 y5 y6 y7 y8 y9) (epactlaw22_ScaleSums.l0 (k + 1) y0 y1 y2 y3 y4 y5 y6 y7 y8 y9))
  | 0 => ⟨fun _ _ _ _ _ r h => by simp [epactlaw22_ScaleSums.j0] at h, fun _ _ _ _ _ r h => by simp [epactlaw22_ScaleSums.j1] at h, fun _ _ _ _ _ _ _ _ _ _ r h => by simp [epactlaw22_ScaleSums.l0] at h⟩
  | k + 1 => by
    obtain ⟨ih0, ih1, ih2⟩ := epactlaw22_ScaleSums.mono_l k
    refine ⟨?_, ?_, ?_⟩
    · intro y0 y1 y2 y3 y4
      unfold epactlaw22_ScaleSums.j0
      repeat' first
      | (with_reducible exact ih0 _ _ _ _ _)
      | (with_reducible exact ih1 _ _ _ _ _)
      | (with_reducible exact ih2 _ _ _ _ _ _ _ _ _ _)
      | (with_reducible exact epactlaw22_small.mono _)
      | (with_reducible exact scale_End.mono _ _)
      | (with_reducible exact scale_Known.mono _ _)
      | (with_reducible exact scale_Length.mono _ _ _)
      | (with_reducible exact scale_Tai.mono _ _ _ _)
      | (with_reducible exact LeO.refl _)
      | (with_reducible exact LeO.none _)
      | (with_reducible refine LeO.ite ?_ ?_)
      | (with_reducible refine LeO.bind ?_ (fun _ => ?_))
      | exact ih0 _ _ _ _ _
      | exact ih1 _ _ _ _ _
      | exact ih2 _ _ _ _ _ _ _ _ _ _
      | exact epactlaw22_small.mono _
      | exact scale_End.mono _ _
      | exact scale_Known.mono _ _
      | exact scale_Length.mono _ _ _
      | exact scale_Tai.mono _ _ _ _
      | exact LeO.none _
      | refine LeO.ite ?_ ?_
      | refine LeO.bind ?_ (fun _ => ?_)
    · intro y0 y1 y2 y3 y4
      unfold epactlaw22_ScaleSums.j1
      repeat' first
      | (with_reducible exact ih0 _ _ _ _ _)
      | (with_reducible exact ih1 _ _ _ _ _)
      | (with_reducible exact ih2 _ _ _ _ _ _ _ _ _ _)
      | (with_reducible exact epactlaw22_small.mono _)
      | (with_reducible exact scale_End.mono _ _)
      | (with_reducible exact scale_Known.mono _ _)
      | (with_reducible exact scale_Length.mono _ _ _)
      | (with_reducible exact scale_Tai.mono _ _ _ _)
      | (with_reducible exact LeO.refl _)
      | (with_reducible exact LeO.none _)
      | (with_reducible refine LeO.ite ?_ ?_)
      | (with_reducible refine LeO.bind ?_ (fun _ => ?_))
      | exact ih0 _ _ _ _ _
      | exact ih1 _ _ _ _ _
      | exact ih2 _ _ _ _ _ _ _ _ _ _
      | exact epactlaw22_small.mono _
      | exact scale_End.mono _ _
      | exact scale_Known.mono _ _
      | exact scale_Length.mono _ _ _
      | exact scale_Tai.mono _ _ _ _
      | exact LeO.none _
      | refine LeO.ite ?_ ?_
      | refine LeO.bind ?_ (fun _ => ?_)
    · intro y0 y1 y2 y3 y4 y5 y6 y7 y8 y9
      unfold epactlaw22_ScaleSums.l0
      repeat' first
      | (with_reducible exact ih0 _ _ _ _ _)
      | (with_reducible exact ih1 _ _ _ _ _)
      | (with_reducible exact ih2 _ _ _ _ _ _ _ _ _ _)
      | (with_reducible exact epactlaw22_small.mono _)
      | (with_reducible exact scale_End.mono _ _)
      | (with_reducible exact scale_Known.mono _ _)
      | (with_reducible exact scale_Length.mono _ _ _)
      | (with_reducible exact scale_Tai.mono _ _ _ _)
      | (with_reducible exact LeO.refl _)
      | (with_reducible exact LeO.none _)
      | (with_reducible refine LeO.ite ?_ ?_)
      | (with_reducible refine LeO.bind ?_ (fun _ => ?_))
      | exact ih0 _ _ _ _ _
      | exact ih1 _ _ _ _ _
      | exact ih2 _ _ _ _ _ _ _ _ _ _
      | exact epactlaw22_small.mono _
      | exact scale_End.mono _ _
      | exact scale_Known.mono _ _
      | exact scale_Length.mono _ _ _
      | exact scale_Tai.mono _ _ _ _
      | exact LeO.none _
      | refine LeO.ite ?_ ?_
      | refine LeO.bind ?_ (fun _ => ?_)
theorem epactlaw22_ScaleSums.mono : ∀ a0 a1 a2 k, LeO (epactlaw22_ScaleSums.f k a0 a1 a2) (epactlaw22_ScaleSums.f (k + 1) a0 a1 a2) := by
  intro a0 a1 a2 k
  obtain ⟨ih0, ih1, ih2⟩ := epactlaw22_ScaleSums.mono_l k
  unfold epactlaw22_ScaleSums.f
  repeat' first
      | (with_reducible exact ih0 _ _ _ _ _)
      | (with_reducible exact ih1 _ _ _ _ _)
      | (with_reducible exact ih2 _ _ _ _ _ _ _ _ _ _)
      | (with_reducible exact epactlaw22_small.mono _)
      | (with_reducible exact scale_End.mono _ _)
      | (with_reducible exact scale_Known.mono _ _)
      | (with_reducible exact scale_Length.mono _ _ _)
      | (with_reducible exact scale_Tai.mono _ _ _ _)
      | (with_reducible exact LeO.refl _)
      | (with_reducible exact LeO.none _)
      | (with_reducible refine LeO.ite ?_ ?_)
      | (with_reducible refine LeO.bind ?_ (fun _ => ?_))
      | exact ih0 _ _ _ _ _
      | exact ih1 _ _ _ _ _
      | exact ih2 _ _ _ _ _ _ _ _ _ _
      | exact epactlaw22_small.mono _
      | exact scale_End.mono _ _
      | exact scale_Known.mono _ _
      | exact scale_Length.mono _ _ _
      | exact scale_Tai.mono _ _ _ _
      | exact LeO.none _
      | refine LeO.ite ?_ ?_
      | refine LeO.bind ?_ (fun _ => ?_)
set_option maxHeartbeats 8000000 in
set_option maxRecDepth 100000 in
theorem epactlaw22_ScaleSums.calls (k : Nat) (A0 : Option Addr) (c0 : Nat) (l0 : List (S45)) (a1 : Int) (a2 : Int) (r : Bool) (w : World) (hr0 : Kd.C k45 w A0 l0.length l0) (hc0 : l0.length ≤ c0) (h : epactlaw22_ScaleSums.f k l0 a1 a2 = some r) :
    Calls Try.prog 7 #[.slice A0 l0.length c0, .int .i64 a1, .int .i64 a2] w fun e w' => e = .returned (.bool r) ∧ Below w.heap.size w w' := by
  have HR0 := Aside0.mk hr0
  have HC0 := Aside0.mk hc0
  clear hr0 hc0
  have HB := Aside0.mk (Below.refl w.heap.size w)
  have H : ((epactlaw22_small.f k).bind fun t423 => (if (l0.length : Int) > 300 then (epactlaw22_ScaleSums.j0 k l0 a1 a2 t423 true) else (if a2 < 0 then (epactlaw22_ScaleSums.j0 k l0 a1 a2 t423 true) else (if a2 > 100 then (epactlaw22_ScaleSums.j0 k l0 a1 a2 t423 true) else (if a1 < 730 then (epactlaw22_ScaleSums.j0 k l0 a1 a2 t423 true) else (epactlaw22_ScaleSums.j0 k l0 a1 a2 t423 (decide (a1 > 2932796)))))))) = some r := h
  clear h
  replace H := Option.bind_eq_some_iff.mp H
  obtain ⟨t423, A40, H⟩ := H
  replace H : (if (l0.length : Int) > 300 then (epactlaw22_ScaleSums.j0 k l0 a1 a2 t423 true) else (if a2 < 0 then (epactlaw22_ScaleSums.j0 k l0 a1 a2 t423 true) else (if a2 > 100 then (epactlaw22_ScaleSums.j0 k l0 a1 a2 t423 true) else (if a1 < 730 then (epactlaw22_ScaleSums.j0 k l0 a1 a2 t423 true) else (epactlaw22_ScaleSums.j0 k l0 a1 a2 t423 (decide (a1 > 2932796))))))) = some r := H
  have A4 := Aside0.mk A40
  clear A40
  have HC5 := Aside0.mk H
  clear H
  go_enter Try.func7, Try.ntmps7
  go_upto_region 2 with (first | ((with_reducible refine gate_callee (f := 9) rfl ?_); refine goesL_ (some 18) rfl rfl Try.func9 (by kernel_rfl) rfl #[] rfl (by (try simp only [List.map_toArray, List.map_cons, List.map_nil]); first | done | rfl | (simp only [List.length_drop, List.length_take]; rfl)) ?_; (with_reducible refine (epactlaw22_small.calls k  t423 _ A4.out).mono ?_); rintro e w6 ⟨rfl, hb⟩; refine ⟨_, rfl, ?_⟩; have n0_ := Aside0.mk (below_step (by repeat (first | (with_reducible first | exact HB.out | apply below_alloc | apply pw_below_drewN | apply below_drew1) | exact HB.out)) hb); clear HB; have HB := n0_; clear n0_; (try clear hb); (try clear hb2); (try clear hk); (try clear hi)))
  (try simp only [Act.put, List.setIfInBounds_toArray, List.set_cons_zero, List.set_cons_succ])
  go_cut [37] (fun v37 wc => ∃ (kq : Nat) (x37_4 : Bool), v37 = .bool x37_4 ∧ Aside0 (epactlaw22_ScaleSums.j0 kq l0 a1 a2 t423 x37_4 = some r) ∧ Aside0 (kq ≤ k) ∧ Aside0 (Below w.heap.size w wc))
  case first =>
    have H := HC5.out
    clear HC5
    by_cases c7 : (l0.length : Int) > 300
    · rw [if_pos c7] at H
      have c7b0 : decide (300 < (l0.length : Int)) = true := decide_eq_true c7
      have c7b1 : decide (300 < l0.length) = true := decide_eq_true (by omega)
      clear c7
      (first | rw [c7b0] | (simp only [i64_w, i32_w]; rw [c7b0]) | skip)
      have H' := Aside0.mk H
      clear H
      go_wp2
      go_meet
      case rel => exact ⟨_, (true), (by first | rfl | (simp; done) | (simp [*]; done)), H', ⟨by first | omega | exact Nat.le_refl _⟩, ⟨by repeat (first | (with_reducible first | exact HB.out | apply below_alloc | apply pw_below_drewN | apply below_drew1) | exact HB.out)⟩⟩
    · rw [if_neg c7] at H
      have c7b0 : decide (300 < (l0.length : Int)) = false := decide_eq_false c7
      have c7b1 : decide (300 < l0.length) = false := decide_eq_false (by omega)
      clear c7
      (first | rw [c7b0] | (simp only [i64_w, i32_w]; rw [c7b0]) | skip)
      by_cases c8 : a2 < 0
      · rw [if_pos c8] at H
        have c8b0 : decide (a2 < 0) = true := decide_eq_true c8
        clear c8
        have H' := Aside0.mk H
        clear H
        go_wp2
        go_meet
        case rel => exact ⟨_, (true), (by first | rfl | (simp; done) | (simp [*]; done)), H', ⟨by first | omega | exact Nat.le_refl _⟩, ⟨by repeat (first | (with_reducible first | exact HB.out | apply below_alloc | apply pw_below_drewN | apply below_drew1) | exact HB.out)⟩⟩
      · rw [if_neg c8] at H
        have c8b0 : decide (a2 < 0) = false := decide_eq_false c8
        clear c8
        by_cases c9 : a2 > 100
        · rw [if_pos c9] at H
          have c9b0 : decide (100 < a2) = true := decide_eq_true c9
          clear c9
          have H' := Aside0.mk H
          clear H
          go_wp2
          go_meet
          case rel => exact ⟨_, (true), (by first | rfl | (simp; done) | (simp [*]; done)), H', ⟨by first | omega | exact Nat.le_refl _⟩, ⟨by repeat (first | (with_reducible first | exact HB.out | apply below_alloc | apply pw_below_drewN | apply below_drew1) | exact HB.out)⟩⟩
        · rw [if_neg c9] at H
          have c9b0 : decide (100 < a2) = false := decide_eq_false c9
          clear c9
          by_cases c10 : a1 < 730
          · rw [if_pos c10] at H
            have c10b0 : decide (a1 < 730) = true := decide_eq_true c10
            clear c10
            have H' := Aside0.mk H
            clear H
            go_wp2
            go_meet
            case rel => exact ⟨_, (true), (by first | rfl | (simp; done) | (simp [*]; done)), H', ⟨by first | omega | exact Nat.le_refl _⟩, ⟨by repeat (first | (with_reducible first | exact HB.out | apply below_alloc | apply pw_below_drewN | apply below_drew1) | exact HB.out)⟩⟩
          · rw [if_neg c10] at H
            have c10b0 : decide (a1 < 730) = false := decide_eq_false c10
            clear c10
            have H' := Aside0.mk H
            clear H
            go_wp2
            go_meet
            case rel => exact ⟨_, (decide (a1 > 2932796)), (by first | rfl | (simp; done) | (simp [*]; done)), H', ⟨by first | omega | exact Nat.le_refl _⟩, ⟨by repeat (first | (with_reducible first | exact HB.out | apply below_alloc | apply pw_below_drewN | apply below_drew1) | exact HB.out)⟩⟩
  case rest =>
    clear HC5
    try clear c1
    try clear p2
    try clear c7
    try clear c7b0
    try clear c7b1
    try clear c8
    try clear c8b0
    try clear c9
    try clear c9b0
    try clear c10
    try clear c10b0
    obtain ⟨kq, x37_4, rfl, HA, HJ4, HB⟩ := hcut
    cases kq with
    | zero => exact absurd HA.out (by simp [epactlaw22_ScaleSums.j0])
    | succ kj4 =>
      have H := HA.out
      clear HA
      simp only [epactlaw22_ScaleSums.j0] at H
      by_cases c11 : x37_4 = true
      · subst c11
        have H1 : (some t423) = some r := by rw [if_pos rfl] at H; exact H
        clear H
        have H := H1
        clear H1
        obtain rfl := Option.some.inj H
        go_wp2
        go_ret
        exact ⟨by first | rfl | (simp [errW_none, errW_some] <;> rfl) | (simp [*, errW_none, errW_some] <;> rfl), by repeat (first | (with_reducible first | exact HB.out | apply below_alloc | apply pw_below_drewN | apply below_drew1) | exact HB.out)⟩
      · replace c11 := Bool.eq_false_iff.mpr c11
        subst c11
        have H1 : ((scale_End.f kj4 l0).bind fun bt424 => (if bt424.2 = true then (epactlaw22_ScaleSums.j1 kj4 l0 a1 a2 t423 true) else ((scale_Known.f kj4 l0).bind fun t426 => (epactlaw22_ScaleSums.j1 kj4 l0 a1 a2 t423 (!t426))))) = some r := by rw [if_neg (show ¬ (false = true) by decide)] at H; exact H
        clear H
        have H := H1
        clear H1
        replace H := Option.bind_eq_some_iff.mp H
        obtain ⟨⟨t424, t425⟩, A120, H⟩ := H
        replace H : (if t425 = true then (epactlaw22_ScaleSums.j1 kj4 l0 a1 a2 t423 true) else ((scale_Known.f kj4 l0).bind fun t426 => (epactlaw22_ScaleSums.j1 kj4 l0 a1 a2 t423 (!t426)))) = some r := H
        have A12 := Aside0.mk A120
        clear A120
        have HC13 := Aside0.mk H
        clear H
        go_upto_region 5 with (first | ((with_reducible refine gate_callee (f := 16) rfl ?_); refine goesL_ (some 41) rfl rfl Try.func16 (by kernel_rfl) rfl #[.slice A0 l0.length c0] rfl (by (try simp only [List.map_toArray, List.map_cons, List.map_nil]); first | done | rfl | (simp only [List.length_drop, List.length_take]; rfl)) ?_; (with_reducible refine (scale_End.calls kj4 _ _ l0 t424 t425 _ ?side1 ?side2 A12.out).mono ?_); (case side1 => repeat (first | exact (Kd.C_below HR0.out HB.out) | (with_reducible refine Kd.C_alloc ?_ _) | (with_reducible refine Kd.C_drewN ?_ _) | (with_reducible refine Kd.C_drew ?_))); (case side2 => exact HC0.out); rintro e w14 ⟨rfl, hb⟩; refine ⟨_, rfl, ?_⟩; have n0_ := Aside0.mk (below_step (by repeat (first | (with_reducible first | exact HB.out | apply below_alloc | apply pw_below_drewN | apply below_drew1) | exact HB.out)) hb); clear HB; have HB := n0_; clear n0_; (try clear hb); (try clear hb2); (try clear hk); (try clear hi)))
        (try simp only [Act.put, List.setIfInBounds_toArray, List.set_cons_zero, List.set_cons_succ])
        go_cut [49] (fun v49 wc => ∃ (kq : Nat) (x49_12 : Bool), v49 = .bool x49_12 ∧ Aside0 (epactlaw22_ScaleSums.j1 kq l0 a1 a2 t423 x49_12 = some r) ∧ Aside0 (kq ≤ kj4) ∧ Aside0 (Below w.heap.size w wc))
        case first =>
          have H := HC13.out
          clear HC13
          by_cases c15 : t425 = true
          · subst c15
            have H1 : (epactlaw22_ScaleSums.j1 kj4 l0 a1 a2 t423 true) = some r := by rw [if_pos rfl] at H; exact H
            clear H
            have H := H1
            clear H1
            have H' := Aside0.mk H
            clear H
            go_wp2
            go_meet
            case rel => exact ⟨_, (true), (by first | rfl | (simp; done) | (simp [*]; done)), H', ⟨by have := HJ4.out; first | omega | exact Nat.le_refl _⟩, ⟨by repeat (first | (with_reducible first | exact HB.out | apply below_alloc | apply pw_below_drewN | apply below_drew1) | exact HB.out)⟩⟩
          · replace c15 := Bool.eq_false_iff.mpr c15
            subst c15
            have H1 : ((scale_Known.f kj4 l0).bind fun t426 => (epactlaw22_ScaleSums.j1 kj4 l0 a1 a2 t423 (!t426))) = some r := by rw [if_neg (show ¬ (false = true) by decide)] at H; exact H
            clear H
            have H := H1
            clear H1
            replace H := Option.bind_eq_some_iff.mp H
            obtain ⟨t426, A160, H⟩ := H
            replace H : (epactlaw22_ScaleSums.j1 kj4 l0 a1 a2 t423 (!t426)) = some r := H
            have A16 := Aside0.mk A160
            clear A160
            have H' := Aside0.mk H
            clear H
            go_wp2_with (first | (go_at_call 18; (with_reducible refine (scale_Known.calls kj4 _ _ l0 t426 _ ?side1 ?side2 A16.out).mono ?_); (case side1 => repeat (first | exact (Kd.C_below HR0.out HB.out) | (with_reducible refine Kd.C_alloc ?_ _) | (with_reducible refine Kd.C_drewN ?_ _) | (with_reducible refine Kd.C_drew ?_))); (case side2 => exact HC0.out); rintro e w17 ⟨rfl, hb⟩; have n0_ := Aside0.mk (below_step (by repeat (first | (with_reducible first | exact HB.out | apply below_alloc | apply pw_below_drewN | apply below_drew1) | exact HB.out)) hb); clear HB; have HB := n0_; clear n0_; (try clear hb); (try clear hb2); (try clear hk); (try clear hi)))
            go_meet
            case rel => exact ⟨_, (!t426), (by first | rfl | (simp; done) | (simp [*]; done)), H', ⟨by have := HJ4.out; first | omega | exact Nat.le_refl _⟩, ⟨by repeat (first | (with_reducible first | exact HB.out | apply below_alloc | apply pw_below_drewN | apply below_drew1) | exact HB.out)⟩⟩
        case rest =>
          clear HC13
          try clear c1
          try clear p2
          try clear c7
          try clear c7b0
          try clear c7b1
          try clear c8
          try clear c8b0
          try clear c9
          try clear c9b0
          try clear c10
          try clear c10b0
          try clear c11
          try clear c15
          try clear c16
          try clear p2
          obtain ⟨kq, x49_12, rfl, HA, HJ12, HB⟩ := hcut
          cases kq with
          | zero => exact absurd HA.out (by simp [epactlaw22_ScaleSums.j1])
          | succ kj12 =>
            have H := HA.out
            clear HA
            simp only [epactlaw22_ScaleSums.j1] at H
            by_cases c18 : x49_12 = true
            · subst c18
              have H1 : (some t423) = some r := by rw [if_pos rfl] at H; exact H
              clear H
              have H := H1
              clear H1
              obtain rfl := Option.some.inj H
              go_wp2
              go_ret
              exact ⟨by first | rfl | (simp [errW_none, errW_some] <;> rfl) | (simp [*, errW_none, errW_some] <;> rfl), by repeat (first | (with_reducible first | exact HB.out | apply below_alloc | apply pw_below_drewN | apply below_drew1) | exact HB.out)⟩
            · replace c18 := Bool.eq_false_iff.mpr c18
              subst c18
              have H1 : ((scale_Tai.f kj12 l0 a1 0).bind fun bt427 => ((scale_Tai.f kj12 l0 (wrap64 (a1 + a2)) 0).bind fun bt429 => (epactlaw22_ScaleSums.l0 kj12 l0 a1 a2 t423 bt427.1 bt427.2 bt429.1 bt429.2 0 0))) = some r := by rw [if_neg (show ¬ (false = true) by decide)] at H; exact H
              clear H
              have H := H1
              clear H1
              replace H := Option.bind_eq_some_iff.mp H
              obtain ⟨⟨t427, t428⟩, A190, H⟩ := H
              replace H : ((scale_Tai.f kj12 l0 (wrap64 (a1 + a2)) 0).bind fun bt429 => (epactlaw22_ScaleSums.l0 kj12 l0 a1 a2 t423 t427 t428 bt429.1 bt429.2 0 0)) = some r := H
              have A19 := Aside0.mk A190
              clear A190
              replace H := Option.bind_eq_some_iff.mp H
              obtain ⟨⟨t429, t430⟩, A200, H⟩ := H
              replace H : (epactlaw22_ScaleSums.l0 kj12 l0 a1 a2 t423 t427 t428 t429 t430 0 0) = some r := H
              have A20 := Aside0.mk A200
              clear A200
              have H' := Aside0.mk H
              clear H
              go_wp2_with (first | ((with_reducible refine gate_callee (f := 12) rfl ?_); refine goesL_ (some 54) rfl rfl Try.func12 (by kernel_rfl) rfl #[.slice A0 l0.length c0, .int .i64 a1, .int .i64 0] rfl (by (try simp only [List.map_toArray, List.map_cons, List.map_nil]); first | done | rfl | (simp only [List.length_drop, List.length_take]; rfl)) ?_; (with_reducible refine (scale_Tai.calls kj12 _ _ l0 a1 0 t427 t428 _ ?side1 ?side2 A19.out).mono ?_); (case side1 => repeat (first | exact (Kd.C_below HR0.out HB.out) | (with_reducible refine Kd.C_alloc ?_ _) | (with_reducible refine Kd.C_drewN ?_ _) | (with_reducible refine Kd.C_drew ?_))); (case side2 => exact HC0.out); rintro e w21 ⟨rfl, hb⟩; refine ⟨_, rfl, ?_⟩; have n0_ := Aside0.mk (below_step (by repeat (first | (with_reducible first | exact HB.out | apply below_alloc | apply pw_below_drewN | apply below_drew1) | exact HB.out)) hb); clear HB; have HB := n0_; clear n0_; (try clear hb); (try clear hb2); (try clear hk); (try clear hi)) | ((with_reducible refine gate_callee (f := 12) rfl ?_); refine goesL_ (some 62) rfl rfl Try.func12 (by kernel_rfl) rfl #[.slice A0 l0.length c0, .int .i64 (wrap64 (a1 + a2)), .int .i64 0] rfl (by (try simp only [List.map_toArray, List.map_cons, List.map_nil]); first | done | rfl | (simp only [List.length_drop, List.length_take]; rfl)) ?_; (with_reducible refine (scale_Tai.calls kj12 _ _ l0 (wrap64 (a1 + a2)) 0 t429 t430 _ ?side1 ?side2 A20.out).mono ?_); (case side1 => repeat (first | exact (Kd.C_below HR0.out HB.out) | (with_reducible refine Kd.C_alloc ?_ _) | (with_reducible refine Kd.C_drewN ?_ _) | (with_reducible refine Kd.C_drew ?_))); (case side2 => exact HC0.out); rintro e w22 ⟨rfl, hb⟩; refine ⟨_, rfl, ?_⟩; have n0_ := Aside0.mk (below_step (by repeat (first | (with_reducible first | exact HB.out | apply below_alloc | apply pw_below_drewN | apply below_drew1) | exact HB.out)) hb); clear HB; have HB := n0_; clear n0_; (try clear hb); (try clear hb2); (try clear hk); (try clear hi)))
              go_loopg [14, 15] kj12 (fun kq v14 v15 w' => ∃ (x14_3 : Int) (x15_3 : Int), v14 = .int .i64 x14_3 ∧ v15 = .int .i64 x15_3 ∧ Aside0 (epactlaw22_ScaleSums.l0 kq l0 a1 a2 t423 t427 t428 t429 t430 x14_3 x15_3 = some r) ∧ Aside0 (kq ≤ kj12) ∧ Aside0 (Below w.heap.size w w'))
              case atStart => exact ⟨(0), (0), (by first | rfl | (simp; done) | (simp [*]; done)), (by first | rfl | (simp; done) | (simp [*]; done)), H', ⟨Nat.le_refl _⟩, ⟨by repeat (first | (with_reducible first | exact HB.out | apply below_alloc | apply pw_below_drewN | apply below_drew1) | exact HB.out)⟩⟩
              case round =>
                clear H'
                try clear c1
                try clear p2
                try clear p6
                try clear c7
                try clear c7b0
                try clear c7b1
                try clear c8
                try clear c8b0
                try clear c9
                try clear c9b0
                try clear c10
                try clear c10b0
                try clear c11
                try clear c12
                try clear c15
                try clear c16
                try clear c18
                try clear p2
                obtain ⟨x14_3, x15_3, rfl, rfl, HA, HK3, HB⟩ := hrel
                cases gk with
                | zero => exact absurd HA.out (by simp [epactlaw22_ScaleSums.l0])
                | succ k3 =>
                  have H := HA.out
                  clear HA
                  simp only [epactlaw22_ScaleSums.l0] at H
                  by_cases c23 : x15_3 < a2
                  · rw [if_pos c23] at H
                    have c23b0 : decide (x15_3 < a2) = true := decide_eq_true c23
                    clear c23
                    replace H := Option.bind_eq_some_iff.mp H
                    obtain ⟨⟨t431, t432⟩, A240, H⟩ := H
                    replace H : (if t432 = 0 then (epactlaw22_ScaleSums.l0 k3 l0 a1 a2 t423 t427 t428 t429 t430 (wrap64 (x14_3 + t431)) (wrap64 (x15_3 + 1))) else (none)) = some r := H
                    have A24 := Aside0.mk A240
                    clear A240
                    by_cases c25 : t432 = 0
                    · rw [if_pos c25] at H
                      have c25b0 : (t432 == 0) = true := beq_iff_eq.mpr c25
                      have c25b1 : (t432 != 0) = false := bne_eq_false_iff_eq.mpr c25
                      clear c25
                      have H' := Aside0.mk H
                      clear H
                      go_wp2_with (first | ((with_reducible refine gate_callee (f := 14) rfl ?_); refine goesL_ (some 75) rfl rfl Try.func14 (by kernel_rfl) rfl #[.slice A0 l0.length c0, .int .i64 (wrap64 (a1 + x15_3))] rfl (by (try simp only [List.map_toArray, List.map_cons, List.map_nil]); first | done | rfl | (simp only [List.length_drop, List.length_take]; rfl)) ?_; (with_reducible refine (scale_Length.calls k3 _ _ l0 (wrap64 (a1 + x15_3)) t431 t432 _ ?side1 ?side2 A24.out).mono ?_); (case side1 => repeat (first | exact (Kd.C_below HR0.out HB.out) | (with_reducible refine Kd.C_alloc ?_ _) | (with_reducible refine Kd.C_drewN ?_ _) | (with_reducible refine Kd.C_drew ?_))); (case side2 => exact HC0.out); rintro e w26 ⟨rfl, hb⟩; refine ⟨_, rfl, ?_⟩; have n0_ := Aside0.mk (below_step (by repeat (first | (with_reducible first | exact HB.out | apply below_alloc | apply pw_below_drewN | apply below_drew1) | exact HB.out)) hb); clear HB; have HB := n0_; clear n0_; (try clear hb); (try clear hb2); (try clear hk); (try clear hi)))
                      go_roundg k3
                      case measure => have := HJ4.out; have := HJ12.out; have := HK3.out; omega
                      case rel => exact ⟨(wrap64 (x14_3 + t431)), (wrap64 (x15_3 + 1)), (by first | rfl | (simp; done) | (simp [*]; done)), (by first | rfl | (simp; done) | (simp [*]; done)), H', ⟨by have := HJ4.out; have := HJ12.out; have := HK3.out; omega⟩, ⟨by repeat (first | (with_reducible first | exact HB.out | apply below_alloc | apply pw_below_drewN | apply below_drew1) | exact HB.out)⟩⟩
                    · rw [if_neg c25] at H
                      exact absurd H (by simp)
                  · rw [if_neg c23] at H
                    have c23b0 : decide (x15_3 < a2) = false := decide_eq_false c23
                    clear c23
                    by_cases c27 : t423 = true
                    · subst c27
                      have H1 : (if t428 = 0 then (if t430 = 0 then (some ((wrap64 (t429 - t427)) == x14_3)) else (none)) else (none)) = some r := by rw [if_pos rfl] at H; exact H
                      clear H
                      have H := H1
                      clear H1
                      by_cases c28 : t428 = 0
                      · rw [if_pos c28] at H
                        have c28b0 : (t428 == 0) = true := beq_iff_eq.mpr c28
                        have c28b1 : (t428 != 0) = false := bne_eq_false_iff_eq.mpr c28
                        clear c28
                        by_cases c29 : t430 = 0
                        · rw [if_pos c29] at H
                          have c29b0 : (t430 == 0) = true := beq_iff_eq.mpr c29
                          have c29b1 : (t430 != 0) = false := bne_eq_false_iff_eq.mpr c29
                          clear c29
                          obtain rfl := Option.some.inj H
                          go_wp2
                          go_ret
                          exact ⟨by first | rfl | (simp [errW_none, errW_some] <;> rfl) | (simp [*, errW_none, errW_some] <;> rfl), by repeat (first | (with_reducible first | exact HB.out | apply below_alloc | apply pw_below_drewN | apply below_drew1) | exact HB.out)⟩
                        · rw [if_neg c29] at H
                          exact absurd H (by simp)
                      · rw [if_neg c28] at H
                        exact absurd H (by simp)
                    · replace c27 := Bool.eq_false_iff.mpr c27
                      subst c27
                      have H1 : (none) = some r := by rw [if_neg (show ¬ (false = true) by decide)] at H; exact H
                      clear H
                      have H := H1
                      clear H1
                      exact absurd H (by simp)

/-! ### epactlaw09_Few: function 20 -/
def epactlaw09_Few.f (l0_0 : List (S53)) (a0_1 : Bool) (a0_2 : Int) : Option (Bool) := some (decide ((l0_0.length : Int) ≤ 300))
set_option maxHeartbeats 8000000 in
set_option maxRecDepth 100000 in
theorem epactlaw09_Few.calls (A0_0 : Option Addr) (c0_0 : Nat) (l0_0 : List (S53)) (a0_1 : Bool) (a0_2 : Int) (r : Bool) (w : World) (hr0_0 : Kd.C k53 w A0_0 l0_0.length l0_0) (hc0_0 : l0_0.length ≤ c0_0) (h : epactlaw09_Few.f l0_0 a0_1 a0_2 = some r) :
    Calls Try.prog 20 #[.agg #[.slice A0_0 l0_0.length c0_0, .bool a0_1, .int .i64 a0_2]] w fun e w' => e = .returned (.bool r) ∧ Below w.heap.size w w' := by
  have hu38 := Try.underlying38
  have HR0_0 := Aside0.mk hr0_0
  have HC0_0 := Aside0.mk hc0_0
  clear hr0_0 hc0_0
  have HB := Aside0.mk (Below.refl w.heap.size w)
  have H : (some (decide ((l0_0.length : Int) ≤ 300))) = some r := h
  clear h
  obtain rfl := Option.some.inj H
  go_enter Try.func20, Try.ntmps20
  go_wp2_with (first | ((with_reducible refine gate_dst (N := 1) rfl ?_); refine box_event ?hg (N := 1) ?hd (cs := #[.slice A0_0 l0_0.length c0_0, .bool a0_1, .int .i64 a0_2]) (t := 38) ?hr ?_; (case hd => rfl); (case hg => rfl); (case hr => first | (go_simp; done) | (go_simp; rfl)); intro gb433 hg w2 hbox hb; have n0_ := Aside0.mk (below_step (by repeat (first | (with_reducible first | exact HB.out | apply below_alloc | apply pw_below_drewN | apply below_drew1) | exact HB.out)) hb); have n1_ := Aside0.mk (hbox); have n2_ := Aside0.mk ((by rw [hg]; exact (below_size (by repeat (first | (with_reducible first | exact HB.out | apply below_alloc | apply pw_below_drewN | apply below_drew1) | exact HB.out))) : w.heap.size ≤ gb433)); have n3_ := Aside0.mk ((by rw [hg]; exact (below_size (by repeat (first | (with_reducible first | exact HB.out | apply below_alloc | apply pw_below_drewN | apply below_drew1) | exact HB.out))) : w.heap.size ≤ gb433)); clear HB; have HB := n0_; have BK433 := n1_; have GW433 := n2_; have GE433 := n3_; clear n0_ n1_ n2_ n3_; clear hb hbox hg; have hcz3_0 : w2.cell? ⟨gb433, 0, none⟩ = some (.slice A0_0 l0_0.length c0_0) := (blk_cell BK433.out 0).trans rfl; have hcz3_1 : w2.cell? ⟨gb433, 1, none⟩ = some (.bool a0_1) := (blk_cell BK433.out 1).trans rfl; have hcz3_2 : w2.cell? ⟨gb433, 2, none⟩ = some (.int .i64 a0_2) := (blk_cell BK433.out 2).trans rfl; have hfz3_0 := blk_frozen BK433.out 0; have hfz3_1 := blk_frozen BK433.out 1; have hfz3_2 := blk_frozen BK433.out 2))
  go_ret
  exact ⟨by first | rfl | (simp [errW_none, errW_some] <;> rfl) | (simp [*, errW_none, errW_some] <;> rfl), by repeat (first | (with_reducible first | exact HB.out | apply below_alloc | apply pw_below_drewN | apply below_drew1 | refine below_set ?_ GE433.out) | exact HB.out)⟩

-- NOT PRINTED: function 57 (api_Leap_57)

/-! ### api_Leap_42: function 42 -/
-- by hand: wip/hand
def api_Leap_42.f (l0 : List (S53)) (a1 : Nat) : Option (Bool) :=
  if l0.length < 4611686018427387904 ∧ a1 = 40 then some (l0.any (fun y => y.f2)) else none
/-- the closure of Records: is a leap's Roll set? -/
theorem api_Leap_42.clo (x : S53) (w W : World) (hb : Below w.heap.size w W) :
    Calls Try.prog 40 #[.agg #[.int .i64 x.f0, .int .i64 x.f1, .bool x.f2]] W fun e w' => e = .returned (.bool x.f2) ∧ Below w.heap.size w w' := by
  have hu := Try.underlying53
  go_enter Try.func40, Try.ntmps40
  go_wp2
  all_goals go_ret
  all_goals exact ⟨by first | rfl | simp, by first | exact hb.alloc hb.size _ | exact hb⟩
set_option maxHeartbeats 4000000 in
theorem api_Leap_42.idx (A : Option Addr) (l : List (S53)) (c : Nat) (w : World) (hC : Kd.C k53 w A l.length l) (hbig : l.length < 4611686018427387904) :
    Calls Try.prog 57 #[.slice A l.length c, .func (.func 40) #[] #[]] w fun e w' => ∃ r : Int, e = .returned (.int .i64 r) ∧ (decide (r ≥ 0)) = l.any (fun y => y.f2) ∧ Below w.heap.size w w' := by
  have HC := Aside0.mk hC
  clear hC
  have HBIG := Aside0.mk hbig
  clear hbig
  go_enter Try.func57, Try.ntmps57
  go_wp2
  go_loopg [5, 8] l.length (fun gg _ s8 wr => ∃ kk : Nat, kk ≤ l.length ∧ l.length - kk ≤ gg ∧ s8 = .int .i64 kk ∧ Aside (Below w.heap.size w wr) ∧ Aside (∀ y ∈ l.take kk, y.f2 = false))
  case atStart => exact ⟨0, Nat.zero_le _, by omega, rfl, Below.refl _ w, fun y hy => absurd hy (by simp)⟩
  case round =>
    obtain ⟨kk, hkk, hg, rfl, BW, A0⟩ := hrel
    by_cases hlt : kk < l.length
    · have hltz : (kk : Int) < (l.length : Int) := by omega
      obtain ⟨ad, e0, hx0, hx1, hx2⟩ := at_T53 (Kd.C_below HC.out BW.out) (kk : Int) (by omega) (by omega)
      cases e0
      simp only [Int.toNat_natCast] at hx0 hx1 hx2
      have hcall := api_Leap_42.clo (rd_T53 l (kk : Int)) w wr BW.out
      have hy : (rd_T53 l (kk : Int)) = l[kk] := by simp [rd_T53, hlt]
      have HY := Aside0.mk hy
      clear hy
      generalize rd_T53 l (kk : Int) = y at hx0 hx1 hx2 hcall HY
      cases hq : y.f2 with
      | true =>
        rw [hq] at hcall hx2
        go_wp2_with (first | (go_at_call 40; refine hcall.mono ?_; rintro e w' ⟨rfl, hb'⟩) | (go_at_fn 40; refine hcall.mono ?_; rintro e w' ⟨rfl, hb'⟩))
        go_ret
        refine ⟨_, rfl, ?_, hb'⟩
        rw [decide_eq_true (by omega)]
        refine (List.any_eq_true.mpr ⟨y, ?_, hq⟩).symm
        rw [HY.out]; exact List.getElem_mem hlt
      | false =>
        rw [hq] at hcall hx2
        go_wp2_with (first | (go_at_call 40; refine hcall.mono ?_; rintro e w' ⟨rfl, hb'⟩) | (go_at_fn 40; refine hcall.mono ?_; rintro e w' ⟨rfl, hb'⟩))
        go_roundg (l.length - (kk + 1))
        case measure => omega
        case rel =>
          refine ⟨kk + 1, by omega, by omega, by (have := HBIG.out; refine congrArg (Value.int .i64) ?_; unfold wrap64; omega), hb', (show Aside _ from fun z hz => ?_)⟩
          rw [List.take_succ_eq_append_getElem hlt, List.mem_append, List.mem_singleton] at hz
          rcases hz with hz | hz
          · exact A0.out z hz
          · rw [hz, ← HY.out]; exact hq
    · have hltz : ¬ (kk : Int) < (l.length : Int) := by omega
      have : kk = l.length := by omega
      subst this
      go_wp2
      go_ret
      refine ⟨_, rfl, ?_, BW.out⟩
      rw [decide_eq_false (by omega)]
      have := A0.out
      rw [List.take_length] at this
      exact (List.any_eq_false.mpr (fun z hz => by rw [this z hz]; simp)).symm
set_option maxHeartbeats 4000000 in
theorem api_Leap_42.calls (A0 : Option Addr) (c0 : Nat) (l0 : List (S53)) (a1 : Nat) (r : Bool) (w : World) (hr0 : Kd.C k53 w A0 l0.length l0) (hc0 : l0.length ≤ c0) (h : api_Leap_42.f l0 a1 = some r) :
    Calls Try.prog 42 #[.slice A0 l0.length c0, .func (.func a1) #[] #[]] w fun e w' => e = .returned (.bool r) ∧ Below w.heap.size w w' := by
  unfold api_Leap_42.f at h
  by_cases hs : l0.length < 4611686018427387904 ∧ a1 = 40
  · rw [if_pos hs] at h
    obtain ⟨hsz, rfl⟩ := hs
    obtain rfl := Option.some.inj h
    clear h
    have hI := Aside0.mk (api_Leap_42.idx A0 l0 c0 w hr0 hsz)
    go_enter Try.func42, Try.ntmps42
    go_wp2_with (go_at_call 57; refine hI.out.mono ?_; rintro e w' ⟨r, rfl, hd, hb⟩)
    go_ret
    exact ⟨by rw [← hd]; rfl, hb⟩
  · rw [if_neg hs] at h; exact absurd h (by simp)

/-! ### record_Records: function 21 -/
mutual
def record_Records.j0 : Nat → List (S45) → Bool → List (S53) → Bool → Int → Option ((List (S45)) × Bool)
  | 0, _, _, _, _, _ => none
  | k + 1, x2, x17, x436000, x436001, x436002 => if x17 = true then (some (([] : List (S45)), false)) else (record_Records.l0 k x2 0 x436000 (x436000.length : Int) 0 x436000 x436001 x436002)
def record_Records.l0 : Nat → List (S45) → Int → List (S53) → Int → Int → List (S53) → Bool → Int → Option ((List (S45)) × Bool)
  | 0, _, _, _, _, _, _, _, _ => none
  | k + 1, x2, x5, x19, x20, x21, x436000, x436001, x436002 => if x21 < x20 then (if 0 ≤ x21 then (if x21 < (x19.length : Int) then (if x2.length < 8796093022208 then (record_Records.l0 k (x2 ++ [(⟨wrap64 ((wrap64 ((wrap64 ((wrap64 (((rd_T53 x19 x21).f0) + 1)) * 86400)) + x5)) + (mn ((rd_T53 x19 x21).f1) 0)), wrap64 (x5 + ((rd_T53 x19 x21).f1))⟩ : S45)]) (wrap64 (x5 + ((rd_T53 x19 x21).f1))) x19 x20 (wrap64 (x21 + 1)) x436000 x436001 x436002) else (none)) else (none)) else (none)) else (if x436001 = true then (if x2.length < 8796093022208 then (some ((x2 ++ [(⟨wrap64 (x436002 + x5), x5⟩ : S45)]), true)) else (none)) else (some (x2, true)))
end
def record_Records.f (k : Nat) (l0_0 : List (S53)) (a0_1 : Bool) (a0_2 : Int) : Option ((List (S45)) × Bool) := (leap_Right.f k l0_0 a0_1 a0_2).bind fun t436 => (if t436 = true then ((api_Leap_42.f l0_0 40).bind fun t437 => (record_Records.j0 k ([] : List (S45)) t437 l0_0 a0_1 a0_2)) else (record_Records.j0 k ([] : List (S45)) true l0_0 a0_1 a0_2))
theorem record_Records.mono_l : ∀ k, (∀ y0 y1 y2 y3 y4, LeO (record_Records.j0 k y0 y1 y2 y3 y4) (record_Records.j0 (k + 1) y0 y1 y2 y3 y4)) ∧ (∀ y0 y1 y2 y3 y4 y5 y6 y7, LeO (record_Records.l0 k y0 y1 y2 y3 y4 y5 y6 y7) (record_Records.l0 (k + 1) y0 y1 y2 y3 y4 y5 y6 y7))
  | 0 => ⟨fun _ _ _ _ _ r h => by simp [record_Records.j0] at h, fun _ _ _ _ _ _ _ _ r h => by simp [record_Records.l0] at h⟩
  | k + 1 => by
    obtain ⟨ih0, ih1⟩ := record_Records.mono_l k
    refine ⟨?_, ?_⟩
    · intro y0 y1 y2 y3 y4
      unfold record_Records.j0
      repeat' first
      | (with_reducible exact ih0 _ _ _ _ _)
      | (with_reducible exact ih1 _ _ _ _ _ _ _ _)
      | (with_reducible exact leap_Right.mono _ _ _ _)
      | (with_reducible exact LeO.refl _)
      | (with_reducible exact LeO.none _)
      | (with_reducible refine LeO.ite ?_ ?_)
      | (with_reducible refine LeO.bind ?_ (fun _ => ?_))
      | exact ih0 _ _ _ _ _
      | exact ih1 _ _ _ _ _ _ _ _
      | exact leap_Right.mono _ _ _ _
      | exact LeO.none _
      | refine LeO.ite ?_ ?_
      | refine LeO.bind ?_ (fun _ => ?_)
    · intro y0 y1 y2 y3 y4 y5 y6 y7
      unfold record_Records.l0
      repeat' first
      | (with_reducible exact ih0 _ _ _ _ _)
      | (with_reducible exact ih1 _ _ _ _ _ _ _ _)
      | (with_reducible exact leap_Right.mono _ _ _ _)
      | (with_reducible exact LeO.refl _)
      | (with_reducible exact LeO.none _)
      | (with_reducible refine LeO.ite ?_ ?_)
      | (with_reducible refine LeO.bind ?_ (fun _ => ?_))
      | exact ih0 _ _ _ _ _
      | exact ih1 _ _ _ _ _ _ _ _
      | exact leap_Right.mono _ _ _ _
      | exact LeO.none _
      | refine LeO.ite ?_ ?_
      | refine LeO.bind ?_ (fun _ => ?_)
theorem record_Records.mono : ∀ a0 a1 a2 k, LeO (record_Records.f k a0 a1 a2) (record_Records.f (k + 1) a0 a1 a2) := by
  intro a0 a1 a2 k
  obtain ⟨ih0, ih1⟩ := record_Records.mono_l k
  unfold record_Records.f
  repeat' first
      | (with_reducible exact ih0 _ _ _ _ _)
      | (with_reducible exact ih1 _ _ _ _ _ _ _ _)
      | (with_reducible exact leap_Right.mono _ _ _ _)
      | (with_reducible exact LeO.refl _)
      | (with_reducible exact LeO.none _)
      | (with_reducible refine LeO.ite ?_ ?_)
      | (with_reducible refine LeO.bind ?_ (fun _ => ?_))
      | exact ih0 _ _ _ _ _
      | exact ih1 _ _ _ _ _ _ _ _
      | exact leap_Right.mono _ _ _ _
      | exact LeO.none _
      | refine LeO.ite ?_ ?_
      | refine LeO.bind ?_ (fun _ => ?_)
set_option maxHeartbeats 8000000 in
set_option maxRecDepth 100000 in
theorem record_Records.calls (k : Nat) (A0_0 : Option Addr) (c0_0 : Nat) (l0_0 : List (S53)) (a0_1 : Bool) (a0_2 : Int) (r1 : List (S45)) (r2 : Bool) (w : World) (hr0_0 : Kd.C k53 w A0_0 l0_0.length l0_0) (hc0_0 : l0_0.length ≤ c0_0) (h : record_Records.f k l0_0 a0_1 a0_2 = some (r1, r2)) :
    Calls Try.prog 21 #[.agg #[.slice A0_0 l0_0.length c0_0, .bool a0_1, .int .i64 a0_2]] w fun e w' => ∃ v0_ : Value, e = .returned (.tuple #[v0_, .bool r2]) ∧ Kd.R k45 45 w' w.heap.size (fun _ => True) v0_ r1 ∧ Below w.heap.size w w' := by
  have hu38 := Try.underlying38
  have hu53 := Try.underlying53
  have hu45 := Try.underlying45
  have HR0_0 := Aside0.mk hr0_0
  have HC0_0 := Aside0.mk hc0_0
  clear hr0_0 hc0_0
  have HB := Aside0.mk (Below.refl w.heap.size w)
  have H : ((leap_Right.f k l0_0 a0_1 a0_2).bind fun t436 => (if t436 = true then ((api_Leap_42.f l0_0 40).bind fun t437 => (record_Records.j0 k ([] : List (S45)) t437 l0_0 a0_1 a0_2)) else (record_Records.j0 k ([] : List (S45)) true l0_0 a0_1 a0_2))) = some (r1, r2) := h
  clear h
  have HC2 := Aside0.mk H
  clear H
  go_enter Try.func21, Try.ntmps21
  go_upto_region 2 with (first | ((with_reducible refine gate_dst (N := 1) rfl ?_); refine box_event ?hg (N := 1) ?hd (cs := #[.slice A0_0 l0_0.length c0_0, .bool a0_1, .int .i64 a0_2]) (t := 38) ?hr ?_; (case hd => rfl); (case hg => rfl); (case hr => first | (go_simp; done) | (go_simp; rfl)); intro gb435 hg w3 hbox hb; have n0_ := Aside0.mk (below_step (by repeat (first | (with_reducible first | exact HB.out | apply below_alloc | apply pw_below_drewN | apply below_drew1) | exact HB.out)) hb); have n1_ := Aside0.mk (hbox); have n2_ := Aside0.mk ((by rw [hg]; exact (below_size (by repeat (first | (with_reducible first | exact HB.out | apply below_alloc | apply pw_below_drewN | apply below_drew1) | exact HB.out))) : w.heap.size ≤ gb435)); have n3_ := Aside0.mk ((by rw [hg]; exact (below_size (by repeat (first | (with_reducible first | exact HB.out | apply below_alloc | apply pw_below_drewN | apply below_drew1) | exact HB.out))) : w.heap.size ≤ gb435)); clear HB; have HB := n0_; have BK435 := n1_; have GW435 := n2_; have GE435 := n3_; clear n0_ n1_ n2_ n3_; clear hb hbox hg))
  (try simp only [Act.put, List.setIfInBounds_toArray, List.set_cons_zero, List.set_cons_succ])
  go_cut [17] (fun v17 wc => ∃ (kq : Nat) (x17_1 : Bool), v17 = .bool x17_1 ∧ Aside0 (record_Records.j0 kq ([] : List (S45)) x17_1 l0_0 a0_1 a0_2 = some (r1, r2)) ∧ Aside0 (kq ≤ k) ∧ Aside0 (Kd.R k45 45 wc w.heap.size (fun _ => True) (.slice none 0 0) ([] : List (S45))) ∧ Aside0 (wc.heap[gb435]? = some (.cells #[(.slice A0_0 l0_0.length c0_0), .bool a0_1, .int .i64 a0_2] 38 (0, 0))) ∧ Aside0 (Below w.heap.size w wc))
  case first =>
    have H := HC2.out
    clear HC2
    replace H := Option.bind_eq_some_iff.mp H
    obtain ⟨t436, A40, H⟩ := H
    replace H : (if t436 = true then ((api_Leap_42.f l0_0 40).bind fun t437 => (record_Records.j0 k ([] : List (S45)) t437 l0_0 a0_1 a0_2)) else (record_Records.j0 k ([] : List (S45)) true l0_0 a0_1 a0_2)) = some (r1, r2) := H
    have A4 := Aside0.mk A40
    clear A40
    by_cases c5 : t436 = true
    · subst c5
      have H1 : ((api_Leap_42.f l0_0 40).bind fun t437 => (record_Records.j0 k ([] : List (S45)) t437 l0_0 a0_1 a0_2)) = some (r1, r2) := by rw [if_pos rfl] at H; exact H
      clear H
      have H := H1
      clear H1
      replace H := Option.bind_eq_some_iff.mp H
      obtain ⟨t437, A60, H⟩ := H
      replace H : (record_Records.j0 k ([] : List (S45)) t437 l0_0 a0_1 a0_2) = some (r1, r2) := H
      have A6 := Aside0.mk A60
      clear A60
      have H' := Aside0.mk H
      clear H
      have hcz7_0 : w3.cell? ⟨gb435, 0, none⟩ = some (.slice A0_0 l0_0.length c0_0) := (blk_cell BK435.out 0).trans rfl
      have hcz7_1 : w3.cell? ⟨gb435, 1, none⟩ = some (.bool a0_1) := (blk_cell BK435.out 1).trans rfl
      have hcz7_2 : w3.cell? ⟨gb435, 2, none⟩ = some (.int .i64 a0_2) := (blk_cell BK435.out 2).trans rfl
      have hfz7_0 := blk_frozen BK435.out 0
      have hfz7_1 := blk_frozen BK435.out 1
      have hfz7_2 := blk_frozen BK435.out 2
      go_wp2_with (first | ((with_reducible refine gate_callee (f := 41) rfl ?_); refine goesL_ (some 10) rfl rfl Try.func41 (by kernel_rfl) rfl #[.agg #[.slice A0_0 l0_0.length c0_0, .bool a0_1, .int .i64 a0_2]] rfl (by (try simp only [List.map_toArray, List.map_cons, List.map_nil]); first | done | rfl | (simp only [List.length_drop, List.length_take]; rfl)) ?_; (with_reducible refine (leap_Right.calls k _ _ l0_0 a0_1 a0_2 true _ ?side1 ?side2 A4.out).mono ?_); (case side1 => repeat (first | exact (Kd.C_below HR0_0.out HB.out) | (with_reducible refine Kd.C_alloc ?_ _) | (with_reducible refine Kd.C_drewN ?_ _) | (with_reducible refine Kd.C_drew ?_))); (case side2 => exact HC0_0.out); rintro e w8 ⟨rfl, hb⟩; refine ⟨_, rfl, ?_⟩; have n0_ := Aside0.mk (blk_below (g := gb435) (o := .cells #[.slice A0_0 l0_0.length c0_0, .bool a0_1, .int .i64 a0_2] 38 (0, 0)) (by (with_reducible repeat (first | refine blk_drewN ?_ _ | refine blk_drew ?_ | refine blk_alloc ?_ _)); exact BK435.out) hb); have n1_ := Aside0.mk (below_step (by repeat (first | (with_reducible first | exact HB.out | apply below_alloc | apply pw_below_drewN | apply below_drew1 | refine below_set ?_ GE435.out) | exact HB.out)) hb); clear BK435; clear HB; have BK435 := n0_; have HB := n1_; clear n0_ n1_; (try clear hb); (try clear hb2); (try clear hk); (try clear hi); have hcz9_0 : w8.cell? ⟨gb435, 0, none⟩ = some (.slice A0_0 l0_0.length c0_0) := (blk_cell BK435.out 0).trans rfl; have hcz9_1 : w8.cell? ⟨gb435, 1, none⟩ = some (.bool a0_1) := (blk_cell BK435.out 1).trans rfl; have hcz9_2 : w8.cell? ⟨gb435, 2, none⟩ = some (.int .i64 a0_2) := (blk_cell BK435.out 2).trans rfl; have hfz9_0 := blk_frozen BK435.out 0; have hfz9_1 := blk_frozen BK435.out 1; have hfz9_2 := blk_frozen BK435.out 2) | (go_at_call 42; (with_reducible refine (api_Leap_42.calls _ _ l0_0 40 t437 _ ?side1 ?side2 A6.out).mono ?_); (case side1 => repeat (first | exact (Kd.C_below HR0_0.out HB.out) | (with_reducible refine Kd.C_alloc ?_ _) | (with_reducible refine Kd.C_drewN ?_ _) | (with_reducible refine Kd.C_drew ?_))); (case side2 => exact HC0_0.out); rintro e w10 ⟨rfl, hb⟩; have n0_ := Aside0.mk (blk_below (g := gb435) (o := .cells #[.slice A0_0 l0_0.length c0_0, .bool a0_1, .int .i64 a0_2] 38 (0, 0)) (by (with_reducible repeat (first | refine blk_drewN ?_ _ | refine blk_drew ?_ | refine blk_alloc ?_ _)); exact BK435.out) hb); have n1_ := Aside0.mk (below_step (by repeat (first | (with_reducible first | exact HB.out | apply below_alloc | apply pw_below_drewN | apply below_drew1 | refine below_set ?_ GE435.out) | exact HB.out)) hb); clear BK435; clear HB; have BK435 := n0_; have HB := n1_; clear n0_ n1_; (try clear hb); (try clear hb2); (try clear hk); (try clear hi)))
      go_meet
      case rel => exact ⟨_, (t437), (by first | rfl | (simp; done) | (simp [*]; done)), H', ⟨by first | omega | exact Nat.le_refl _⟩, ⟨by first | exact Kd.R_nil _ _ _ _ _ | exact Kd.N_nil _ _ _ _ _ | exact Kd.V_nil _ _ _ _ _ | exact Kd.Q_nil _ _ _ _ _ | exact Kd.S_nil _ _ _ _ _⟩, ⟨by (with_reducible repeat (first | refine blk_drewN ?_ _ | refine blk_drew ?_ | refine blk_alloc ?_ _)); exact BK435.out⟩, ⟨by repeat (first | (with_reducible first | exact HB.out | apply below_alloc | apply pw_below_drewN | apply below_drew1 | refine below_set ?_ GE435.out) | exact HB.out)⟩⟩
    · replace c5 := Bool.eq_false_iff.mpr c5
      subst c5
      have H1 : (record_Records.j0 k ([] : List (S45)) true l0_0 a0_1 a0_2) = some (r1, r2) := by rw [if_neg (show ¬ (false = true) by decide)] at H; exact H
      clear H
      have H := H1
      clear H1
      have H' := Aside0.mk H
      clear H
      have hcz11_0 : w3.cell? ⟨gb435, 0, none⟩ = some (.slice A0_0 l0_0.length c0_0) := (blk_cell BK435.out 0).trans rfl
      have hcz11_1 : w3.cell? ⟨gb435, 1, none⟩ = some (.bool a0_1) := (blk_cell BK435.out 1).trans rfl
      have hcz11_2 : w3.cell? ⟨gb435, 2, none⟩ = some (.int .i64 a0_2) := (blk_cell BK435.out 2).trans rfl
      have hfz11_0 := blk_frozen BK435.out 0
      have hfz11_1 := blk_frozen BK435.out 1
      have hfz11_2 := blk_frozen BK435.out 2
      go_wp2_with (first | ((with_reducible refine gate_callee (f := 41) rfl ?_); refine goesL_ (some 10) rfl rfl Try.func41 (by kernel_rfl) rfl #[.agg #[.slice A0_0 l0_0.length c0_0, .bool a0_1, .int .i64 a0_2]] rfl (by (try simp only [List.map_toArray, List.map_cons, List.map_nil]); first | done | rfl | (simp only [List.length_drop, List.length_take]; rfl)) ?_; (with_reducible refine (leap_Right.calls k _ _ l0_0 a0_1 a0_2 false _ ?side1 ?side2 A4.out).mono ?_); (case side1 => repeat (first | exact (Kd.C_below HR0_0.out HB.out) | (with_reducible refine Kd.C_alloc ?_ _) | (with_reducible refine Kd.C_drewN ?_ _) | (with_reducible refine Kd.C_drew ?_))); (case side2 => exact HC0_0.out); rintro e w12 ⟨rfl, hb⟩; refine ⟨_, rfl, ?_⟩; have n0_ := Aside0.mk (blk_below (g := gb435) (o := .cells #[.slice A0_0 l0_0.length c0_0, .bool a0_1, .int .i64 a0_2] 38 (0, 0)) (by (with_reducible repeat (first | refine blk_drewN ?_ _ | refine blk_drew ?_ | refine blk_alloc ?_ _)); exact BK435.out) hb); have n1_ := Aside0.mk (below_step (by repeat (first | (with_reducible first | exact HB.out | apply below_alloc | apply pw_below_drewN | apply below_drew1 | refine below_set ?_ GE435.out) | exact HB.out)) hb); clear BK435; clear HB; have BK435 := n0_; have HB := n1_; clear n0_ n1_; (try clear hb); (try clear hb2); (try clear hk); (try clear hi)))
      go_meet
      case rel => exact ⟨_, (true), (by first | rfl | (simp; done) | (simp [*]; done)), H', ⟨by first | omega | exact Nat.le_refl _⟩, ⟨by first | exact Kd.R_nil _ _ _ _ _ | exact Kd.N_nil _ _ _ _ _ | exact Kd.V_nil _ _ _ _ _ | exact Kd.Q_nil _ _ _ _ _ | exact Kd.S_nil _ _ _ _ _⟩, ⟨by (with_reducible repeat (first | refine blk_drewN ?_ _ | refine blk_drew ?_ | refine blk_alloc ?_ _)); exact BK435.out⟩, ⟨by repeat (first | (with_reducible first | exact HB.out | apply below_alloc | apply pw_below_drewN | apply below_drew1 | refine below_set ?_ GE435.out) | exact HB.out)⟩⟩
  case rest =>
    clear HC2
    try clear c2
    try clear p2
    try clear c4
    try clear c5
    try clear hcz11_0
    try clear hcz11_1
    try clear hcz11_2
    try clear hcz7_0
    try clear hcz7_1
    try clear hcz7_2
    try clear hcz9_0
    try clear hcz9_1
    try clear hcz9_2
    try clear hfz11_0
    try clear hfz11_1
    try clear hfz11_2
    try clear hfz7_0
    try clear hfz7_1
    try clear hfz7_2
    try clear hfz9_0
    try clear hfz9_1
    try clear hfz9_2
    obtain ⟨kq, x17_1, rfl, HA, HJ1, HO_2, BK435, HB⟩ := hcut
    cases kq with
    | zero => exact absurd HA.out (by simp [record_Records.j0])
    | succ kj1 =>
      have H := HA.out
      clear HA
      simp only [record_Records.j0] at H
      by_cases c13 : x17_1 = true
      · subst c13
        have H1 : (some (([] : List (S45)), false)) = some (r1, r2) := by rw [if_pos rfl] at H; exact H
        clear H
        have H := H1
        clear H1
        simp only [Option.some.injEq, Prod.mk.injEq] at H
        obtain ⟨rfl, rfl⟩ := H
        go_wp2
        go_ret2
        exact ⟨_, by first | rfl | (simp [errW_none, errW_some] <;> rfl) | (simp [*, errW_none, errW_some] <;> rfl), by first | exact Kd.R_nil _ _ _ _ _ | exact Kd.N_nil _ _ _ _ _ | exact Kd.V_nil _ _ _ _ _ | exact Kd.Q_nil _ _ _ _ _ | exact Kd.S_nil _ _ _ _ _, by repeat (first | (with_reducible first | exact HB.out | apply below_alloc | apply pw_below_drewN | apply below_drew1 | refine below_set ?_ GE435.out) | exact HB.out)⟩
      · replace c13 := Bool.eq_false_iff.mpr c13
        subst c13
        have H1 : (record_Records.l0 kj1 ([] : List (S45)) 0 l0_0 (l0_0.length : Int) 0 l0_0 a0_1 a0_2) = some (r1, r2) := by rw [if_neg (show ¬ (false = true) by decide)] at H; exact H
        clear H
        have H := H1
        clear H1
        have H' := Aside0.mk H
        clear H
        have hcz14_0 : wc.cell? ⟨gb435, 0, none⟩ = some (.slice A0_0 l0_0.length c0_0) := (blk_cell BK435.out 0).trans rfl
        have hcz14_1 : wc.cell? ⟨gb435, 1, none⟩ = some (.bool a0_1) := (blk_cell BK435.out 1).trans rfl
        have hcz14_2 : wc.cell? ⟨gb435, 2, none⟩ = some (.int .i64 a0_2) := (blk_cell BK435.out 2).trans rfl
        have hfz14_0 := blk_frozen BK435.out 0
        have hfz14_1 := blk_frozen BK435.out 1
        have hfz14_2 := blk_frozen BK435.out 2
        go_wp2
        go_loopg [2, 5, 21] kj1 (fun kq v2 v5 v21 w' => ∃ (x2_2 : List (S45)) (x5_2 : Int) (x21_2 : Int), v5 = .int .i64 x5_2 ∧ v21 = .int .i64 x21_2 ∧ Aside0 (record_Records.l0 kq x2_2 x5_2 l0_0 (l0_0.length : Int) x21_2 l0_0 a0_1 a0_2 = some (r1, r2)) ∧ Aside0 (kq ≤ kj1) ∧ Aside0 (Kd.R k45 45 w' w.heap.size (fun _ => True) v2 x2_2) ∧ Aside0 (w'.heap[gb435]? = some (.cells #[(.slice A0_0 l0_0.length c0_0), .bool a0_1, .int .i64 a0_2] 38 (0, 0))) ∧ Aside0 (Below w.heap.size w w'))
        case atStart => exact ⟨(([] : List (S45))), (0), (0), (by first | rfl | (simp; done) | (simp [*]; done)), (by first | rfl | (simp; done) | (simp [*]; done)), H', ⟨Nat.le_refl _⟩, ⟨by (with_reducible repeat (first | apply Kd.R_alloc | apply Kd.R_drewN | apply Kd.R_drew)); exact HO_2.out⟩, ⟨by (with_reducible repeat (first | refine blk_drewN ?_ _ | refine blk_drew ?_ | refine blk_alloc ?_ _)); exact BK435.out⟩, ⟨by repeat (first | (with_reducible first | exact HB.out | apply below_alloc | apply pw_below_drewN | apply below_drew1 | refine below_set ?_ GE435.out) | exact HB.out)⟩⟩
        case round =>
          clear H'
          try clear c1
          try clear c2
          try clear p2
          try clear c4
          try clear c5
          try clear c13
          try clear hcz11_0
          try clear hcz11_1
          try clear hcz11_2
          try clear hcz14_0
          try clear hcz14_1
          try clear hcz14_2
          try clear hcz7_0
          try clear hcz7_1
          try clear hcz7_2
          try clear hcz9_0
          try clear hcz9_1
          try clear hcz9_2
          try clear hfz11_0
          try clear hfz11_1
          try clear hfz11_2
          try clear hfz14_0
          try clear hfz14_1
          try clear hfz14_2
          try clear hfz7_0
          try clear hfz7_1
          try clear hfz7_2
          try clear hfz9_0
          try clear hfz9_1
          try clear hfz9_2
          try clear p2
          obtain ⟨x2_2, x5_2, x21_2, rfl, rfl, HA, HK2, HO_2, BK435, HB⟩ := hrel
          cases gk with
          | zero => exact absurd HA.out (by simp [record_Records.l0])
          | succ k2 =>
            have H := HA.out
            clear HA
            simp only [record_Records.l0] at H
            by_cases c15 : x21_2 < (l0_0.length : Int)
            · rw [if_pos c15] at H
              have c15b0 : decide (x21_2 < (l0_0.length : Int)) = true := decide_eq_true c15
              clear c15
              by_cases c16 : 0 ≤ x21_2
              · rw [if_pos c16] at H
                have c16b0 : decide (0 ≤ x21_2) = true := decide_eq_true c16
                clear c16
                by_cases c17 : x21_2 < (l0_0.length : Int)
                · rw [if_pos c17] at H
                  have c17b0 : decide (x21_2 < (l0_0.length : Int)) = true := decide_eq_true c17
                  clear c17
                  obtain ⟨ji18, hji18⟩ : ∃ j_ : Int, (mn ((rd_T53 l0_0 x21_2).f1) 0) = j_ := ⟨_, rfl⟩
                  replace H : (if x2_2.length < 8796093022208 then (record_Records.l0 k2 (x2_2 ++ [(⟨wrap64 ((wrap64 ((wrap64 ((wrap64 (((rd_T53 l0_0 x21_2).f0) + 1)) * 86400)) + x5_2)) + (ji18)), wrap64 (x5_2 + ((rd_T53 l0_0 x21_2).f1))⟩ : S45)]) (wrap64 (x5_2 + ((rd_T53 l0_0 x21_2).f1))) l0_0 (l0_0.length : Int) (wrap64 (x21_2 + 1)) l0_0 a0_1 a0_2) else (none)) = some (r1, r2) := by first | (rw [hji18] at H; exact H) | (simp only [hji18] at H ⊢; exact H)
                  have hji18_ : (if 0 < ((rd_T53 l0_0 x21_2).f1) then 0 else ((rd_T53 l0_0 x21_2).f1)) = ji18 := hji18
                  by_cases c19 : x2_2.length < 8796093022208
                  · rw [if_pos c19] at H
                    have LMc19 := Aside0.mk c19
                    clear c19
                    obtain ⟨y440, hy440⟩ : ∃ y_ : List (S45), y_ = (x2_2 ++ [(⟨wrap64 ((wrap64 ((wrap64 ((wrap64 (((rd_T53 l0_0 x21_2).f0) + 1)) * 86400)) + x5_2)) + (ji18)), wrap64 (x5_2 + ((rd_T53 l0_0 x21_2).f1))⟩ : S45)]) := ⟨_, rfl⟩
                    replace H : (record_Records.l0 k2 y440 (wrap64 (x5_2 + ((rd_T53 l0_0 x21_2).f1))) l0_0 (l0_0.length : Int) (wrap64 (x21_2 + 1)) l0_0 a0_1 a0_2) = some (r1, r2) := by first | (rw [hy440]; with_reducible exact H) | (have H2_ := (Option.bind_some _ _).symm.trans H; rw [hy440]; with_reducible exact H2_) | (have H2_ := (Option.bind_some _ _).symm.trans H; with_reducible exact H2_) | with_reducible exact H | (rw [hy440]; exact H) | exact H
                    have Ny440 := Aside0.mk hy440
                    clear hy440
                    have H' := Aside0.mk H
                    clear H
                    have p438 : 0 ≤ (x21_2 : Int) := of_decide_eq_true (by first | (with_reducible assumption) | assumption)
                    have q438 : x21_2 < (l0_0.length : Int) := of_decide_eq_true (by first | (with_reducible assumption) | assumption)
                    obtain ⟨ad438, e438, hx438_0, hx438_1, hx438_2⟩ := at_T53 HR0_0.out x21_2 p438 q438
                    cases e438
                    replace hx438_0 := (HB.out.cell (World.block_lt_of_cell? w _ hx438_0)).trans hx438_0
                    replace hx438_1 := (HB.out.cell (World.block_lt_of_cell? w _ hx438_1)).trans hx438_1
                    replace hx438_2 := (HB.out.cell (World.block_lt_of_cell? w _ hx438_2)).trans hx438_2
                    replace p438 := eq_true p438
                    replace q438 := eq_true q438
                    go_wp2_with (first | ((with_reducible refine gate_dst (N := 7) rfl ?_); refine box_event ?hg (N := 7) ?hd (cs := #[.int .i64 0, .int .i64 0, .bool false]) (t := 53) ?hr ?_; (case hd => rfl); (case hg => rfl); (case hr => first | (go_simp; done) | (go_simp; rfl)); intro gb439 hg w20 hbox hb; have n0_ := Aside0.mk (Kd.R_below (by (with_reducible repeat (first | apply Kd.R_alloc | apply Kd.R_drewN | apply Kd.R_drew)); exact HO_2.out) hb); have n1_ := Aside0.mk (blk_below (g := gb435) (o := .cells #[.slice (some ad438) l0_0.length c0_0, .bool a0_1, .int .i64 a0_2] 38 (0, 0)) (by (with_reducible repeat (first | refine blk_drewN ?_ _ | refine blk_drew ?_ | refine blk_alloc ?_ _)); exact BK435.out) hb); have n2_ := Aside0.mk (below_step (by repeat (first | (with_reducible first | exact HB.out | apply below_alloc | apply pw_below_drewN | apply below_drew1 | refine below_set ?_ GE435.out) | exact HB.out)) hb); have n3_ := Aside0.mk (hbox); have n4_ := Aside0.mk ((by rw [hg]; exact (below_size (by repeat (first | (with_reducible first | exact HB.out | apply below_alloc | apply pw_below_drewN | apply below_drew1 | refine below_set ?_ GE435.out) | exact HB.out))) : w.heap.size ≤ gb439)); have n5_ := Aside0.mk ((by rw [hg]; exact (below_size (by repeat (first | (with_reducible first | exact HB.out | apply below_alloc | apply pw_below_drewN | apply below_drew1 | refine below_set ?_ GE435.out) | exact HB.out))) : w.heap.size ≤ gb439)); have n6_ := Aside0.mk ((by rw [hg]; exact Nat.ne_of_lt (blk_lt (g := gb435) (o := .cells #[.slice (some ad438) l0_0.length c0_0, .bool a0_1, .int .i64 a0_2] 38 (0, 0)) (by (with_reducible repeat (first | refine blk_drewN ?_ _ | refine blk_drew ?_ | refine blk_alloc ?_ _)); exact BK435.out)) : gb435 ≠ gb439)); have n7_ := Aside0.mk ((by rw [hg]; exact Nat.ne_of_gt (blk_lt (g := gb435) (o := .cells #[.slice (some ad438) l0_0.length c0_0, .bool a0_1, .int .i64 a0_2] 38 (0, 0)) (by (with_reducible repeat (first | refine blk_drewN ?_ _ | refine blk_drew ?_ | refine blk_alloc ?_ _)); exact BK435.out)) : gb439 ≠ gb435)); clear HO_2; clear BK435; clear HB; have HO_2 := n0_; have BK435 := n1_; have HB := n2_; have BK439 := n3_; have GW439 := n4_; have GE439 := n5_; have NB435_439 := n6_; have NB439_435 := n7_; clear n0_ n1_ n2_ n3_ n4_ n5_ n6_ n7_; clear hb hbox hg; have hnb21 := NB439_435.out; have hnc21 := NB435_439.out; have hcz22_0 : w20.cell? ⟨gb439, 0, none⟩ = some (.int .i64 0) := (blk_cell BK439.out 0).trans rfl; have hcz22_1 : w20.cell? ⟨gb439, 1, none⟩ = some (.int .i64 0) := (blk_cell BK439.out 1).trans rfl; have hcz22_2 : w20.cell? ⟨gb439, 2, none⟩ = some (.bool false) := (blk_cell BK439.out 2).trans rfl; have hfz22_0 := blk_frozen BK439.out 0; have hfz22_1 := blk_frozen BK439.out 1; have hfz22_2 := blk_frozen BK439.out 2) | ((with_reducible refine gate_builtin (b := .append) (xs := #[.tmp 39, .tmp 43]) rfl ?_); at_builtin; refine Kd.R_append k45 (w0 := w) w.heap.size rfl (.tmp 39) (.tmp 43) 22 45 (.agg #[(.int .i64 0), (.int .i64 0)]) 16 rfl Try.underlying22 info45 rfl (by decide) (by omega) u2 x2_2 (⟨wrap64 ((wrap64 ((wrap64 ((wrap64 (((rd_T53 l0_0 x21_2).f0) + 1)) * 86400)) + x5_2)) + (ji18)), wrap64 (x5_2 + ((rd_T53 l0_0 x21_2).f1))⟩ : S45) [.int .i64 (wrap64 ((wrap64 ((wrap64 ((wrap64 (((rd_T53 l0_0 x21_2).f0) + 1)) * 86400)) + x5_2)) + (ji18))), .int .i64 (wrap64 (x5_2 + ((rd_T53 l0_0 x21_2).f1)))] (fun _ => True) (fun _ => False) rfl (by first | (go_simp; done) | (go_simp; rfl)) ?aP (fun _ hk => hk.elim) ?aF ?aO ?aB ?aS ?aL ?_; (case aP => exact k45_mkM _ _ _ (⟨wrap64 ((wrap64 ((wrap64 ((wrap64 (((rd_T53 l0_0 x21_2).f0) + 1)) * 86400)) + x5_2)) + (ji18)), wrap64 (x5_2 + ((rd_T53 l0_0 x21_2).f1))⟩ : S45)); (case aB => exact (by repeat (first | (with_reducible first | exact HB.out | apply below_alloc | apply pw_below_drewN | apply below_drew1 | refine below_set ?_ GE435.out | refine below_set ?_ GE439.out) | exact HB.out))); (case aF => exact (fun _ _ => trivial)); (case aO => exact (by (with_reducible repeat (first | apply Kd.R_alloc | apply Kd.R_drewN | apply Kd.R_drew)); exact Kd.R_mono (Kd.R_far (p := ⟨gb439, 2, none⟩) (Kd.R_far (p := ⟨gb439, 1, none⟩) (Kd.R_far (p := ⟨gb439, 0, none⟩) (Kd.R_types HO_2.out BK439.out (by decide)) (fun _ hk => hk.2) (.int .i64 ((rd_T53 l0_0 x21_2).f0))) (fun _ hk => hk.2) (.int .i64 ((rd_T53 l0_0 x21_2).f1))) (fun _ hk => hk.2) (.bool ((rd_T53 l0_0 x21_2).f2))) (fun _ hk => trivial))); (case aS => exact (below_size (by repeat (first | (with_reducible first | exact HB.out | apply below_alloc | apply pw_below_drewN | apply below_drew1 | refine below_set ?_ GE435.out | refine below_set ?_ GE439.out) | exact HB.out)))); (case aL => have := LMc19.out; omega); intro v441 w23 ho hb hg hat; rw [← Ny440.out] at ho; have n0_ := Aside0.mk (blk_grown (g := gb435) (o := .cells #[.slice (some ad438) l0_0.length c0_0, .bool a0_1, .int .i64 a0_2] 38 (0, 0)) (by (with_reducible repeat (first | refine blk_drewN ?_ _ | refine blk_drew ?_ | refine blk_alloc ?_ _)); refine blk_far ?_ NB435_439.out _; (with_reducible repeat (first | refine blk_drewN ?_ _ | refine blk_drew ?_ | refine blk_alloc ?_ _)); refine blk_far ?_ NB435_439.out _; (with_reducible repeat (first | refine blk_drewN ?_ _ | refine blk_drew ?_ | refine blk_alloc ?_ _)); refine blk_far ?_ NB435_439.out _; (with_reducible repeat (first | refine blk_drewN ?_ _ | refine blk_drew ?_ | refine blk_alloc ?_ _)); exact BK435.out) hg (Kd.R_ne HO_2.out BK435.out (by decide))); have n1_ := Aside0.mk (blk_grown (g := gb439) (o := .cells #[.int .i64 ((rd_T53 l0_0 x21_2).f0), .int .i64 ((rd_T53 l0_0 x21_2).f1), .bool ((rd_T53 l0_0 x21_2).f2)] 53 (0, 0)) (by (with_reducible repeat (first | refine blk_drewN ?_ _ | refine blk_drew ?_ | refine blk_alloc ?_ _)); refine blk_put (cs := #[.int .i64 ((rd_T53 l0_0 x21_2).f0), .int .i64 ((rd_T53 l0_0 x21_2).f1), .bool false]) ?_ 2 _ rfl; (with_reducible repeat (first | refine blk_drewN ?_ _ | refine blk_drew ?_ | refine blk_alloc ?_ _)); refine blk_put (cs := #[.int .i64 ((rd_T53 l0_0 x21_2).f0), .int .i64 0, .bool false]) ?_ 1 _ rfl; (with_reducible repeat (first | refine blk_drewN ?_ _ | refine blk_drew ?_ | refine blk_alloc ?_ _)); refine blk_put (cs := #[.int .i64 0, .int .i64 0, .bool false]) ?_ 0 _ rfl; (with_reducible repeat (first | refine blk_drewN ?_ _ | refine blk_drew ?_ | refine blk_alloc ?_ _)); exact BK439.out) hg (Kd.R_ne HO_2.out BK439.out (by decide))); have n2_ := Aside0.mk (hb); have n3_ := Aside0.mk (ho); clear BK435; clear BK439; clear HB; clear HO_2; have BK435 := n0_; have BK439 := n1_; have HB := n2_; have HO442 := n3_; clear n0_ n1_ n2_ n3_; clear ho hb hg hat))
                    go_roundg k2
                    case measure => have := HJ1.out; have := HK2.out; omega
                    case rel => exact ⟨(y440), (wrap64 (x5_2 + ((rd_T53 l0_0 x21_2).f1))), (wrap64 (x21_2 + 1)), (by first | rfl | (simp; done) | (simp [*]; done)), (by first | rfl | (simp; done) | (simp [*]; done)), H', ⟨by have := HJ1.out; have := HK2.out; omega⟩, ⟨by (with_reducible repeat (first | apply Kd.R_alloc | apply Kd.R_drewN | apply Kd.R_drew)); exact HO442.out⟩, ⟨by (with_reducible repeat (first | refine blk_drewN ?_ _ | refine blk_drew ?_ | refine blk_alloc ?_ _)); exact BK435.out⟩, ⟨by repeat (first | (with_reducible first | exact HB.out | apply below_alloc | apply pw_below_drewN | apply below_drew1 | refine below_set ?_ GE435.out | refine below_set ?_ GE439.out) | exact HB.out)⟩⟩
                  · rw [if_neg c19] at H
                    exact absurd H (by simp)
                · rw [if_neg c17] at H
                  exact absurd H (by simp)
              · rw [if_neg c16] at H
                exact absurd H (by simp)
            · rw [if_neg c15] at H
              have c15b0 : decide (x21_2 < (l0_0.length : Int)) = false := decide_eq_false c15
              clear c15
              by_cases c24 : a0_1 = true
              · subst c24
                have H1 : (if x2_2.length < 8796093022208 then (some ((x2_2 ++ [(⟨wrap64 (a0_2 + x5_2), x5_2⟩ : S45)]), true)) else (none)) = some (r1, r2) := by rw [if_pos rfl] at H; exact H
                clear H
                have H := H1
                clear H1
                by_cases c25 : x2_2.length < 8796093022208
                · rw [if_pos c25] at H
                  have LMc25 := Aside0.mk c25
                  clear c25
                  obtain ⟨y443, hy443⟩ : ∃ y_ : List (S45), y_ = (x2_2 ++ [(⟨wrap64 (a0_2 + x5_2), x5_2⟩ : S45)]) := ⟨_, rfl⟩
                  replace H : (some (y443, true)) = some (r1, r2) := by first | (rw [hy443]; with_reducible exact H) | (have H2_ := (Option.bind_some _ _).symm.trans H; rw [hy443]; with_reducible exact H2_) | (have H2_ := (Option.bind_some _ _).symm.trans H; with_reducible exact H2_) | with_reducible exact H | (rw [hy443]; exact H) | exact H
                  have Ny443 := Aside0.mk hy443
                  clear hy443
                  simp only [Option.some.injEq, Prod.mk.injEq] at H
                  obtain ⟨rfl, rfl⟩ := H
                  have hcz26_0 : wr.cell? ⟨gb435, 0, none⟩ = some (.slice A0_0 l0_0.length c0_0) := (blk_cell BK435.out 0).trans rfl
                  have hcz26_1 : wr.cell? ⟨gb435, 1, none⟩ = some (.bool true) := (blk_cell BK435.out 1).trans rfl
                  have hcz26_2 : wr.cell? ⟨gb435, 2, none⟩ = some (.int .i64 a0_2) := (blk_cell BK435.out 2).trans rfl
                  have hfz26_0 := blk_frozen BK435.out 0
                  have hfz26_1 := blk_frozen BK435.out 1
                  have hfz26_2 := blk_frozen BK435.out 2
                  go_wp2_with (first | ((with_reducible refine gate_builtin (b := .append) (xs := #[.tmp 48, .tmp 55]) rfl ?_); at_builtin; refine Kd.R_append k45 (w0 := w) w.heap.size rfl (.tmp 48) (.tmp 55) 22 45 (.agg #[(.int .i64 0), (.int .i64 0)]) 16 rfl Try.underlying22 info45 rfl (by decide) (by omega) u2 x2_2 (⟨wrap64 (a0_2 + x5_2), x5_2⟩ : S45) [.int .i64 (wrap64 (a0_2 + x5_2)), .int .i64 x5_2] (fun _ => True) (fun _ => False) rfl rfl ?aP (fun _ hk => hk.elim) ?aF ?aO ?aB ?aS ?aL ?_; (case aP => exact k45_mkM _ _ _ (⟨wrap64 (a0_2 + x5_2), x5_2⟩ : S45)); (case aB => exact (by repeat (first | (with_reducible first | exact HB.out | apply below_alloc | apply pw_below_drewN | apply below_drew1 | refine below_set ?_ GE435.out) | exact HB.out))); (case aF => exact (fun _ _ => trivial)); (case aO => exact (by (with_reducible repeat (first | apply Kd.R_alloc | apply Kd.R_drewN | apply Kd.R_drew)); exact HO_2.out)); (case aS => exact (below_size (by repeat (first | (with_reducible first | exact HB.out | apply below_alloc | apply pw_below_drewN | apply below_drew1 | refine below_set ?_ GE435.out) | exact HB.out)))); (case aL => have := LMc25.out; omega); intro v444 w27 ho hb hg hat; rw [← Ny443.out] at ho; have n0_ := Aside0.mk (blk_grown (g := gb435) (o := .cells #[.slice A0_0 l0_0.length c0_0, .bool true, .int .i64 a0_2] 38 (0, 0)) (by (with_reducible repeat (first | refine blk_drewN ?_ _ | refine blk_drew ?_ | refine blk_alloc ?_ _)); exact BK435.out) hg (Kd.R_ne HO_2.out BK435.out (by decide))); have n1_ := Aside0.mk (hb); have n2_ := Aside0.mk (ho); clear BK435; clear HB; clear HO_2; have BK435 := n0_; have HB := n1_; have HO445 := n2_; clear n0_ n1_ n2_; clear ho hb hg hat))
                  go_ret2
                  exact ⟨_, by first | rfl | (simp [errW_none, errW_some] <;> rfl) | (simp [*, errW_none, errW_some] <;> rfl), by (with_reducible repeat (first | apply Kd.R_alloc | apply Kd.R_drewN | apply Kd.R_drew)); exact HO445.out, by repeat (first | (with_reducible first | exact HB.out | apply below_alloc | apply pw_below_drewN | apply below_drew1 | refine below_set ?_ GE435.out) | exact HB.out)⟩
                · rw [if_neg c25] at H
                  exact absurd H (by simp)
              · replace c24 := Bool.eq_false_iff.mpr c24
                subst c24
                have H1 : (some (x2_2, true)) = some (r1, r2) := by rw [if_neg (show ¬ (false = true) by decide)] at H; exact H
                clear H
                have H := H1
                clear H1
                simp only [Option.some.injEq, Prod.mk.injEq] at H
                obtain ⟨rfl, rfl⟩ := H
                have hcz28_0 : wr.cell? ⟨gb435, 0, none⟩ = some (.slice A0_0 l0_0.length c0_0) := (blk_cell BK435.out 0).trans rfl
                have hcz28_1 : wr.cell? ⟨gb435, 1, none⟩ = some (.bool false) := (blk_cell BK435.out 1).trans rfl
                have hcz28_2 : wr.cell? ⟨gb435, 2, none⟩ = some (.int .i64 a0_2) := (blk_cell BK435.out 2).trans rfl
                have hfz28_0 := blk_frozen BK435.out 0
                have hfz28_1 := blk_frozen BK435.out 1
                have hfz28_2 := blk_frozen BK435.out 2
                go_wp2
                go_ret2
                exact ⟨_, by first | rfl | (simp [errW_none, errW_some] <;> rfl) | (simp [*, errW_none, errW_some] <;> rfl), by (with_reducible repeat (first | apply Kd.R_alloc | apply Kd.R_drewN | apply Kd.R_drew)); exact HO_2.out, by repeat (first | (with_reducible first | exact HB.out | apply below_alloc | apply pw_below_drewN | apply below_drew1 | refine below_set ?_ GE435.out) | exact HB.out)⟩

end Go.Proofs.Ythecldgopjaogaa.PAll
