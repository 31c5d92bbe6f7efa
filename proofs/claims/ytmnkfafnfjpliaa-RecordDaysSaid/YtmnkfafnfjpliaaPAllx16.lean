-- Written for this claim by wip/tools of this repo (after the kit's print; own contracts laid in).
import Derived.Test.YtmnkfafnfjpliaaPAllx0
import Derived.Test.YtmnkfafnfjpliaaPAllx5
import Derived.Test.YtmnkfafnfjpliaaPAllx6
import Derived.Test.YtmnkfafnfjpliaaPAllx7
import Derived.Test.YtmnkfafnfjpliaaPAllx8
namespace Go.Proofs.Ytmnkfafnfjpliaa.PAll
open Go.RowKit Go.Proofs.YtmnkfafnfjpliaaW.PrintWords Go.Proofs.YtmnkfafnfjpliaaW.PrintLast Go.Proofs.YtmnkfafnfjpliaaW.PrintMore
attribute [local go_sem] max2_int min2_int max_two min_two max_three min_three max_four min_four   -- for this text's walks alone
set_option linter.unusedVariables false
set_option linter.unusedSimpArgs false

/-! ### epactlaw12_RecordEnds: function 6 -/
def epactlaw12_RecordEnds.j0 : Nat → List (S44) → Int → Bool → Bool → Option (Bool)
  | 0, _, _, _, _ => none
  | k + 1, x0, x1, x5, x19 => if x19 = true then (some x5) else ((record_Expiry.f k x0).bind fun bt421 => (if bt421.2 = true then (if (x0.length : Int) < 1 then (none) else (if 0 ≤ (wrap64 ((x0.length : Int) - 1)) then (if (wrap64 ((x0.length : Int) - 1)) ≤ (x0.length : Int) then ((some (x0.take ((wrap64 ((x0.length : Int) - 1)) : Int).toNat : List (S44))).bind fun y425 => ((record_Expiry.f k y425).bind fun bt429 => (if x5 = true then (if (wrap64 ((x0.length : Int) - 1)) < (x0.length : Int) then (if bt421.1 = ((rd_T44 x0 (wrap64 ((x0.length : Int) - 1))).f0) then (if bt429.2 = true then (none) else ((record_Right.f k y425).bind fun t432 => (if t432 = true then ((record_Sum.f k y425 x1).bind fun t433 => ((record_Sum.f k x0 x1).bind fun t434 => (if t433 = t434 then ((record_Step.f k y425 x1).bind fun t435 => ((record_Step.f k x0 x1).bind fun t436 => (some (t435 == t436)))) else (none)))) else (none)))) else (none)) else (none)) else (none)))) else (none)) else (none))) else (if x5 = true then (if bt421.1 = 0 then (if (x0.length : Int) = 0 then (some true) else (if 0 ≤ (wrap64 ((x0.length : Int) - 1)) then (if (wrap64 ((x0.length : Int) - 1)) < (x0.length : Int) then ((record_Step.f k x0 ((rd_T44 x0 (wrap64 ((x0.length : Int) - 1))).f0)).bind fun t424 => (some (t424 != 0))) else (none)) else (none))) else (none)) else (none))))
def epactlaw12_RecordEnds.f (k : Nat) (l0 : List (S44)) (a1 : Int) : Option (Bool) := (epactlaw12_small.f k).bind fun t419 => (if (l0.length : Int) > 300 then (epactlaw12_RecordEnds.j0 k l0 a1 t419 true) else ((record_Right.f k l0).bind fun t420 => (epactlaw12_RecordEnds.j0 k l0 a1 t419 (!t420))))
theorem epactlaw12_RecordEnds.mono_l : ∀ k, (∀ y0 y1 y2 y3, LeO (epactlaw12_RecordEnds.j0 k y0 y1 y2 y3) (epactlaw12_RecordEnds.j0 (k + 1) y0 y1 y2 y3))
  | 0 => fun _ _ _ _ r h => by simp [epactlaw12_RecordEnds.j0] at h
  | k + 1 => by
    have ih0 := epactlaw12_RecordEnds.mono_l k
    · intro y0 y1 y2 y3
      unfold epactlaw12_RecordEnds.j0
      repeat' first
      | (with_reducible exact ih0 _ _ _ _)
      | (with_reducible exact epactlaw12_small.mono _)
      | (with_reducible exact record_Expiry.mono _ _)
      | (with_reducible exact record_Right.mono _ _)
      | (with_reducible exact record_Step.mono _ _ _)
      | (with_reducible exact record_Sum.mono _ _ _)
      | (with_reducible exact LeO.refl _)
      | (with_reducible exact LeO.none _)
      | (with_reducible refine LeO.ite ?_ ?_)
      | (with_reducible refine LeO.bind ?_ (fun _ => ?_))
      | exact ih0 _ _ _ _
      | exact epactlaw12_small.mono _
      | exact record_Expiry.mono _ _
      | exact record_Right.mono _ _
      | exact record_Step.mono _ _ _
      | exact record_Sum.mono _ _ _
      | exact LeO.none _
      | refine LeO.ite ?_ ?_
      | refine LeO.bind ?_ (fun _ => ?_)
theorem epactlaw12_RecordEnds.mono : ∀ a0 a1 k, LeO (epactlaw12_RecordEnds.f k a0 a1) (epactlaw12_RecordEnds.f (k + 1) a0 a1) := by
  intro a0 a1 k
  have ih0 := epactlaw12_RecordEnds.mono_l k
  unfold epactlaw12_RecordEnds.f
  repeat' first
      | (with_reducible exact ih0 _ _ _ _)
      | (with_reducible exact epactlaw12_small.mono _)
      | (with_reducible exact record_Expiry.mono _ _)
      | (with_reducible exact record_Right.mono _ _)
      | (with_reducible exact record_Step.mono _ _ _)
      | (with_reducible exact record_Sum.mono _ _ _)
      | (with_reducible exact LeO.refl _)
      | (with_reducible exact LeO.none _)
      | (with_reducible refine LeO.ite ?_ ?_)
      | (with_reducible refine LeO.bind ?_ (fun _ => ?_))
      | exact ih0 _ _ _ _
      | exact epactlaw12_small.mono _
      | exact record_Expiry.mono _ _
      | exact record_Right.mono _ _
      | exact record_Step.mono _ _ _
      | exact record_Sum.mono _ _ _
      | exact LeO.none _
      | refine LeO.ite ?_ ?_
      | refine LeO.bind ?_ (fun _ => ?_)
set_option maxHeartbeats 8000000 in
set_option maxRecDepth 100000 in
theorem epactlaw12_RecordEnds.calls (k : Nat) (A0 : Option Addr) (c0 : Nat) (l0 : List (S44)) (a1 : Int) (r : Bool) (w : World) (hr0 : Kd.C k44 w A0 l0.length l0) (hc0 : l0.length ≤ c0) (h : epactlaw12_RecordEnds.f k l0 a1 = some r) :
    Calls Try.prog 6 #[.slice A0 l0.length c0, .int .i64 a1] w fun e w' => e = .returned (.bool r) ∧ Below w.heap.size w w' := by
  have HR0 := Aside0.mk hr0
  have HC0 := Aside0.mk hc0
  clear hr0 hc0
  have HB := Aside0.mk (Below.refl w.heap.size w)
  have H : ((epactlaw12_small.f k).bind fun t419 => (if (l0.length : Int) > 300 then (epactlaw12_RecordEnds.j0 k l0 a1 t419 true) else ((record_Right.f k l0).bind fun t420 => (epactlaw12_RecordEnds.j0 k l0 a1 t419 (!t420))))) = some r := h
  clear h
  replace H := Option.bind_eq_some_iff.mp H
  obtain ⟨t419, A30, H⟩ := H
  replace H : (if (l0.length : Int) > 300 then (epactlaw12_RecordEnds.j0 k l0 a1 t419 true) else ((record_Right.f k l0).bind fun t420 => (epactlaw12_RecordEnds.j0 k l0 a1 t419 (!t420)))) = some r := H
  have A3 := Aside0.mk A30
  clear A30
  have HC4 := Aside0.mk H
  clear H
  go_enter Try.func6, Try.ntmps6
  go_upto_region 2 with (first | ((with_reducible refine gate_callee (f := 9) rfl ?_); refine goesL_ (some 11) rfl rfl Try.func9 (by kernel_rfl) rfl #[] rfl (by (try simp only [List.map_toArray, List.map_cons, List.map_nil]); first | done | rfl | (simp only [List.length_drop, List.length_take]; rfl)) ?_; (with_reducible refine (epactlaw12_small.calls k  t419 _ A3.out).mono ?_); rintro e w5 ⟨rfl, hb⟩; refine ⟨_, rfl, ?_⟩; have n0_ := Aside0.mk (below_step (by repeat (first | (with_reducible first | exact HB.out | apply below_alloc | apply pw_below_drewN | apply below_drew1) | exact HB.out)) hb); clear HB; have HB := n0_; clear n0_; (try clear hb); (try clear hb2); (try clear hk); (try clear hi)))
  (try simp only [Act.put, List.setIfInBounds_toArray, List.set_cons_zero, List.set_cons_succ])
  go_cut [19] (fun v19 wc => ∃ (kq : Nat) (x19_3 : Bool), v19 = .bool x19_3 ∧ Aside0 (epactlaw12_RecordEnds.j0 kq l0 a1 t419 x19_3 = some r) ∧ Aside0 (kq ≤ k) ∧ Aside0 (Below w.heap.size w wc))
  case first =>
    have H := HC4.out
    clear HC4
    by_cases c6 : (l0.length : Int) > 300
    · rw [if_pos c6] at H
      have c6b0 : decide (300 < (l0.length : Int)) = true := decide_eq_true c6
      have c6b1 : decide (300 < l0.length) = true := decide_eq_true (by omega)
      clear c6
      (first | rw [c6b0] | (simp only [i64_w, i32_w]; rw [c6b0]) | skip)
      have H' := Aside0.mk H
      clear H
      go_wp2
      go_meet
      case rel => exact ⟨_, (true), (by first | rfl | (simp; done) | (simp [*]; done)), H', ⟨by first | omega | exact Nat.le_refl _⟩, ⟨by repeat (first | (with_reducible first | exact HB.out | apply below_alloc | apply pw_below_drewN | apply below_drew1) | exact HB.out)⟩⟩
    · rw [if_neg c6] at H
      have c6b0 : decide (300 < (l0.length : Int)) = false := decide_eq_false c6
      have c6b1 : decide (300 < l0.length) = false := decide_eq_false (by omega)
      clear c6
      (first | rw [c6b0] | (simp only [i64_w, i32_w]; rw [c6b0]) | skip)
      replace H := Option.bind_eq_some_iff.mp H
      obtain ⟨t420, A70, H⟩ := H
      replace H : (epactlaw12_RecordEnds.j0 k l0 a1 t419 (!t420)) = some r := H
      have A7 := Aside0.mk A70
      clear A70
      have H' := Aside0.mk H
      clear H
      go_wp2_with (first | (go_at_call 16; (with_reducible refine (record_Right.calls k _ _ l0 t420 _ ?side1 ?side2 A7.out).mono ?_); (case side1 => repeat (first | exact (Kd.C_below HR0.out HB.out) | (with_reducible refine Kd.C_alloc ?_ _) | (with_reducible refine Kd.C_drewN ?_ _) | (with_reducible refine Kd.C_drew ?_))); (case side2 => exact HC0.out); rintro e w8 ⟨rfl, hb⟩; have n0_ := Aside0.mk (below_step (by repeat (first | (with_reducible first | exact HB.out | apply below_alloc | apply pw_below_drewN | apply below_drew1) | exact HB.out)) hb); clear HB; have HB := n0_; clear n0_; (try clear hb); (try clear hb2); (try clear hk); (try clear hi)))
      go_meet
      case rel => exact ⟨_, (!t420), (by first | rfl | (simp; done) | (simp [*]; done)), H', ⟨by first | omega | exact Nat.le_refl _⟩, ⟨by repeat (first | (with_reducible first | exact HB.out | apply below_alloc | apply pw_below_drewN | apply below_drew1) | exact HB.out)⟩⟩
  case rest =>
    clear HC4
    try clear p2
    try clear c6
    try clear c6b0
    try clear c6b1
    obtain ⟨kq, x19_3, rfl, HA, HJ3, HB⟩ := hcut
    cases kq with
    | zero => exact absurd HA.out (by simp [epactlaw12_RecordEnds.j0])
    | succ kj3 =>
      have H := HA.out
      clear HA
      simp only [epactlaw12_RecordEnds.j0] at H
      by_cases c9 : x19_3 = true
      · subst c9
        have H1 : (some t419) = some r := by rw [if_pos rfl] at H; exact H
        clear H
        have H := H1
        clear H1
        obtain rfl := Option.some.inj H
        go_wp2
        go_ret
        exact ⟨by first | rfl | (simp [errW_none, errW_some] <;> rfl) | (simp [*, errW_none, errW_some] <;> rfl), by repeat (first | (with_reducible first | exact HB.out | apply below_alloc | apply pw_below_drewN | apply below_drew1) | exact HB.out)⟩
      · replace c9 := Bool.eq_false_iff.mpr c9
        subst c9
        have H1 : ((record_Expiry.f kj3 l0).bind fun bt421 => (if bt421.2 = true then (if (l0.length : Int) < 1 then (none) else (if 0 ≤ (wrap64 ((l0.length : Int) - 1)) then (if (wrap64 ((l0.length : Int) - 1)) ≤ (l0.length : Int) then ((some (l0.take ((wrap64 ((l0.length : Int) - 1)) : Int).toNat : List (S44))).bind fun y425 => ((record_Expiry.f kj3 y425).bind fun bt429 => (if t419 = true then (if (wrap64 ((l0.length : Int) - 1)) < (l0.length : Int) then (if bt421.1 = ((rd_T44 l0 (wrap64 ((l0.length : Int) - 1))).f0) then (if bt429.2 = true then (none) else ((record_Right.f kj3 y425).bind fun t432 => (if t432 = true then ((record_Sum.f kj3 y425 a1).bind fun t433 => ((record_Sum.f kj3 l0 a1).bind fun t434 => (if t433 = t434 then ((record_Step.f kj3 y425 a1).bind fun t435 => ((record_Step.f kj3 l0 a1).bind fun t436 => (some (t435 == t436)))) else (none)))) else (none)))) else (none)) else (none)) else (none)))) else (none)) else (none))) else (if t419 = true then (if bt421.1 = 0 then (if (l0.length : Int) = 0 then (some true) else (if 0 ≤ (wrap64 ((l0.length : Int) - 1)) then (if (wrap64 ((l0.length : Int) - 1)) < (l0.length : Int) then ((record_Step.f kj3 l0 ((rd_T44 l0 (wrap64 ((l0.length : Int) - 1))).f0)).bind fun t424 => (some (t424 != 0))) else (none)) else (none))) else (none)) else (none)))) = some r := by rw [if_neg (show ¬ (false = true) by decide)] at H; exact H
        clear H
        have H := H1
        clear H1
        replace H := Option.bind_eq_some_iff.mp H
        obtain ⟨⟨t421, t422⟩, A100, H⟩ := H
        replace H : (if t422 = true then (if (l0.length : Int) < 1 then (none) else (if 0 ≤ (wrap64 ((l0.length : Int) - 1)) then (if (wrap64 ((l0.length : Int) - 1)) ≤ (l0.length : Int) then ((some (l0.take ((wrap64 ((l0.length : Int) - 1)) : Int).toNat : List (S44))).bind fun y425 => ((record_Expiry.f kj3 y425).bind fun bt429 => (if t419 = true then (if (wrap64 ((l0.length : Int) - 1)) < (l0.length : Int) then (if t421 = ((rd_T44 l0 (wrap64 ((l0.length : Int) - 1))).f0) then (if bt429.2 = true then (none) else ((record_Right.f kj3 y425).bind fun t432 => (if t432 = true then ((record_Sum.f kj3 y425 a1).bind fun t433 => ((record_Sum.f kj3 l0 a1).bind fun t434 => (if t433 = t434 then ((record_Step.f kj3 y425 a1).bind fun t435 => ((record_Step.f kj3 l0 a1).bind fun t436 => (some (t435 == t436)))) else (none)))) else (none)))) else (none)) else (none)) else (none)))) else (none)) else (none))) else (if t419 = true then (if t421 = 0 then (if (l0.length : Int) = 0 then (some true) else (if 0 ≤ (wrap64 ((l0.length : Int) - 1)) then (if (wrap64 ((l0.length : Int) - 1)) < (l0.length : Int) then ((record_Step.f kj3 l0 ((rd_T44 l0 (wrap64 ((l0.length : Int) - 1))).f0)).bind fun t424 => (some (t424 != 0))) else (none)) else (none))) else (none)) else (none))) = some r := H
        have A10 := Aside0.mk A100
        clear A100
        by_cases c11 : t422 = true
        · subst c11
          have H1 : (if (l0.length : Int) < 1 then (none) else (if 0 ≤ (wrap64 ((l0.length : Int) - 1)) then (if (wrap64 ((l0.length : Int) - 1)) ≤ (l0.length : Int) then ((some (l0.take ((wrap64 ((l0.length : Int) - 1)) : Int).toNat : List (S44))).bind fun y425 => ((record_Expiry.f kj3 y425).bind fun bt429 => (if t419 = true then (if (wrap64 ((l0.length : Int) - 1)) < (l0.length : Int) then (if t421 = ((rd_T44 l0 (wrap64 ((l0.length : Int) - 1))).f0) then (if bt429.2 = true then (none) else ((record_Right.f kj3 y425).bind fun t432 => (if t432 = true then ((record_Sum.f kj3 y425 a1).bind fun t433 => ((record_Sum.f kj3 l0 a1).bind fun t434 => (if t433 = t434 then ((record_Step.f kj3 y425 a1).bind fun t435 => ((record_Step.f kj3 l0 a1).bind fun t436 => (some (t435 == t436)))) else (none)))) else (none)))) else (none)) else (none)) else (none)))) else (none)) else (none))) = some r := by rw [if_pos rfl] at H; exact H
          clear H
          have H := H1
          clear H1
          by_cases c12 : (l0.length : Int) < 1
          · rw [if_pos c12] at H
            exact absurd H (by simp)
          · rw [if_neg c12] at H
            have c12b0 : decide ((l0.length : Int) < 1) = false := decide_eq_false c12
            have c12b1 : decide (l0.length < 1) = false := decide_eq_false (by omega)
            clear c12
            obtain ⟨ji13, hji13⟩ : ∃ j_ : Int, (wrap64 ((l0.length : Int) - 1)) = j_ := ⟨_, rfl⟩
            replace H : (if 0 ≤ (ji13) then (if (ji13) ≤ (l0.length : Int) then ((some (l0.take ((ji13) : Int).toNat : List (S44))).bind fun y425 => ((record_Expiry.f kj3 y425).bind fun bt429 => (if t419 = true then (if (ji13) < (l0.length : Int) then (if t421 = ((rd_T44 l0 (ji13)).f0) then (if bt429.2 = true then (none) else ((record_Right.f kj3 y425).bind fun t432 => (if t432 = true then ((record_Sum.f kj3 y425 a1).bind fun t433 => ((record_Sum.f kj3 l0 a1).bind fun t434 => (if t433 = t434 then ((record_Step.f kj3 y425 a1).bind fun t435 => ((record_Step.f kj3 l0 a1).bind fun t436 => (some (t435 == t436)))) else (none)))) else (none)))) else (none)) else (none)) else (none)))) else (none)) else (none)) = some r := by first | (rw [hji13] at H; exact H) | (simp only [hji13] at H ⊢; exact H)
            (try rw [hji13] at A10)
            have hji13w : (IntKind.i64.wrap ((l0.length : Int) - 1)) = ji13 := (i64_w _).trans hji13
            by_cases c14 : 0 ≤ (ji13)
            · rw [if_pos c14] at H
              have c14b0 := eq_true c14
              have c14b1 : decide (0 ≤ (ji13)) = true := decide_eq_true c14
              clear c14
              by_cases c15 : (ji13) ≤ (l0.length : Int)
              · rw [if_pos c15] at H
                have c15b0 := eq_true c15
                have c15b1 : decide ((ji13) ≤ (l0.length : Int)) = true := decide_eq_true c15
                clear c15
                obtain ⟨y425, hy425⟩ : ∃ y_ : List (S44), y_ = (l0.take ((ji13) : Int).toNat) := ⟨_, rfl⟩
                replace H : ((record_Expiry.f kj3 y425).bind fun bt429 => (if t419 = true then (if (ji13) < (l0.length : Int) then (if t421 = ((rd_T44 l0 (ji13)).f0) then (if bt429.2 = true then (none) else ((record_Right.f kj3 y425).bind fun t432 => (if t432 = true then ((record_Sum.f kj3 y425 a1).bind fun t433 => ((record_Sum.f kj3 l0 a1).bind fun t434 => (if t433 = t434 then ((record_Step.f kj3 y425 a1).bind fun t435 => ((record_Step.f kj3 l0 a1).bind fun t436 => (some (t435 == t436)))) else (none)))) else (none)))) else (none)) else (none)) else (none))) = some r := by first | (rw [hy425]; with_reducible exact H) | (have H2_ := (Option.bind_some _ _).symm.trans H; rw [hy425]; with_reducible exact H2_) | (have H2_ := (Option.bind_some _ _).symm.trans H; with_reducible exact H2_) | with_reducible exact H | (rw [hy425]; exact H) | exact H
                have Ny425 := Aside0.mk hy425
                clear hy425
                replace H := Option.bind_eq_some_iff.mp H
                obtain ⟨⟨t429, t430⟩, A160, H⟩ := H
                replace H : (if t419 = true then (if (ji13) < (l0.length : Int) then (if t421 = ((rd_T44 l0 (ji13)).f0) then (if t430 = true then (none) else ((record_Right.f kj3 y425).bind fun t432 => (if t432 = true then ((record_Sum.f kj3 y425 a1).bind fun t433 => ((record_Sum.f kj3 l0 a1).bind fun t434 => (if t433 = t434 then ((record_Step.f kj3 y425 a1).bind fun t435 => ((record_Step.f kj3 l0 a1).bind fun t436 => (some (t435 == t436)))) else (none)))) else (none)))) else (none)) else (none)) else (none)) = some r := H
                have A16 := Aside0.mk A160
                clear A160
                by_cases c17 : t419 = true
                · subst c17
                  have H1 : (if (ji13) < (l0.length : Int) then (if t421 = ((rd_T44 l0 (ji13)).f0) then (if t430 = true then (none) else ((record_Right.f kj3 y425).bind fun t432 => (if t432 = true then ((record_Sum.f kj3 y425 a1).bind fun t433 => ((record_Sum.f kj3 l0 a1).bind fun t434 => (if t433 = t434 then ((record_Step.f kj3 y425 a1).bind fun t435 => ((record_Step.f kj3 l0 a1).bind fun t436 => (some (t435 == t436)))) else (none)))) else (none)))) else (none)) else (none)) = some r := by rw [if_pos rfl] at H; exact H
                  clear H
                  have H := H1
                  clear H1
                  by_cases c18 : (ji13) < (l0.length : Int)
                  · rw [if_pos c18] at H
                    have c18b0 : decide ((ji13) < (l0.length : Int)) = true := decide_eq_true c18
                    clear c18
                    by_cases c19 : t421 = ((rd_T44 l0 (ji13)).f0)
                    · rw [if_pos c19] at H
                      have c19b0 : (t421 == ((rd_T44 l0 (ji13)).f0)) = true := beq_iff_eq.mpr c19
                      have c19b1 : (t421 != ((rd_T44 l0 (ji13)).f0)) = false := bne_eq_false_iff_eq.mpr c19
                      clear c19
                      by_cases c20 : t430 = true
                      · subst c20
                        have H1 : (none) = some r := by rw [if_pos rfl] at H; exact H
                        clear H
                        have H := H1
                        clear H1
                        exact absurd H (by simp)
                      · replace c20 := Bool.eq_false_iff.mpr c20
                        subst c20
                        have H1 : ((record_Right.f kj3 y425).bind fun t432 => (if t432 = true then ((record_Sum.f kj3 y425 a1).bind fun t433 => ((record_Sum.f kj3 l0 a1).bind fun t434 => (if t433 = t434 then ((record_Step.f kj3 y425 a1).bind fun t435 => ((record_Step.f kj3 l0 a1).bind fun t436 => (some (t435 == t436)))) else (none)))) else (none))) = some r := by rw [if_neg (show ¬ (false = true) by decide)] at H; exact H
                        clear H
                        have H := H1
                        clear H1
                        replace H := Option.bind_eq_some_iff.mp H
                        obtain ⟨t432, A210, H⟩ := H
                        replace H : (if t432 = true then ((record_Sum.f kj3 y425 a1).bind fun t433 => ((record_Sum.f kj3 l0 a1).bind fun t434 => (if t433 = t434 then ((record_Step.f kj3 y425 a1).bind fun t435 => ((record_Step.f kj3 l0 a1).bind fun t436 => (some (t435 == t436)))) else (none)))) else (none)) = some r := H
                        have A21 := Aside0.mk A210
                        clear A210
                        by_cases c22 : t432 = true
                        · subst c22
                          have H1 : ((record_Sum.f kj3 y425 a1).bind fun t433 => ((record_Sum.f kj3 l0 a1).bind fun t434 => (if t433 = t434 then ((record_Step.f kj3 y425 a1).bind fun t435 => ((record_Step.f kj3 l0 a1).bind fun t436 => (some (t435 == t436)))) else (none)))) = some r := by rw [if_pos rfl] at H; exact H
                          clear H
                          have H := H1
                          clear H1
                          replace H := Option.bind_eq_some_iff.mp H
                          obtain ⟨t433, A230, H⟩ := H
                          replace H : ((record_Sum.f kj3 l0 a1).bind fun t434 => (if t433 = t434 then ((record_Step.f kj3 y425 a1).bind fun t435 => ((record_Step.f kj3 l0 a1).bind fun t436 => (some (t435 == t436)))) else (none))) = some r := H
                          have A23 := Aside0.mk A230
                          clear A230
                          replace H := Option.bind_eq_some_iff.mp H
                          obtain ⟨t434, A240, H⟩ := H
                          replace H : (if t433 = t434 then ((record_Step.f kj3 y425 a1).bind fun t435 => ((record_Step.f kj3 l0 a1).bind fun t436 => (some (t435 == t436)))) else (none)) = some r := H
                          have A24 := Aside0.mk A240
                          clear A240
                          by_cases c25 : t433 = t434
                          · rw [if_pos c25] at H
                            have c25b0 : (t433 == t434) = true := beq_iff_eq.mpr c25
                            have c25b1 : (t433 != t434) = false := bne_eq_false_iff_eq.mpr c25
                            clear c25
                            replace H := Option.bind_eq_some_iff.mp H
                            obtain ⟨t435, A260, H⟩ := H
                            replace H : ((record_Step.f kj3 l0 a1).bind fun t436 => (some (t435 == t436))) = some r := H
                            have A26 := Aside0.mk A260
                            clear A260
                            replace H := Option.bind_eq_some_iff.mp H
                            obtain ⟨t436, A270, H⟩ := H
                            replace H : (some (t435 == t436)) = some r := H
                            have A27 := Aside0.mk A270
                            clear A270
                            obtain rfl := Option.some.inj H
                            go_wp2_with (first | ((with_reducible refine gate_callee (f := 19) rfl ?_); refine goesL_ (some 23) rfl rfl Try.func19 (by kernel_rfl) rfl #[.slice A0 l0.length c0] rfl (by (try simp only [List.map_toArray, List.map_cons, List.map_nil]); first | done | rfl | (simp only [List.length_drop, List.length_take]; rfl)) ?_; (with_reducible refine (record_Expiry.calls kj3 _ _ l0 t421 true _ ?side1 ?side2 A10.out).mono ?_); (case side1 => repeat (first | exact (Kd.C_below HR0.out HB.out) | (with_reducible refine Kd.C_alloc ?_ _) | (with_reducible refine Kd.C_drewN ?_ _) | (with_reducible refine Kd.C_drew ?_))); (case side2 => exact HC0.out); rintro e w28 ⟨rfl, hb⟩; refine ⟨_, rfl, ?_⟩; have n0_ := Aside0.mk (below_step (by repeat (first | (with_reducible first | exact HB.out | apply below_alloc | apply pw_below_drewN | apply below_drew1) | exact HB.out)) hb); clear HB; have HB := n0_; clear n0_; (try clear hb); (try clear hb2); (try clear hk); (try clear hi); have q29 : ((ji13) : Int) ≤ ((l0.length : Int) : Int) := of_decide_eq_true (by first | (with_reducible assumption) | assumption); obtain ⟨i029, hi029, _, hsz29, _⟩ := info_parts info44; have hroom29 : l0.length ≤ c0 := HC0.out; have hC29 : Kd.C k44 _ A0 l0.length l0 := HR0.out; have hcut29 := cut_to (P := Try.prog) 25 44 .i64 Try.underlying25 hi029 A0 l0.length c0 (ji13) (of_decide_eq_true (by first | (with_reducible assumption) | assumption)) q29 hroom29; have hr29 := Kd.C_take (m := ((ji13) : Int).toNat) hC29 (by omega); have hy29 : y425.length = ((ji13) : Int).toNat := (by rw [Ny425.out, List.length_take]; omega); rw [← Ny425.out] at hr29; rw [← hy29] at hcut29; have HR428 := Aside0.mk hr29; have HC428 := Aside0.mk (show y425.length ≤ c0 from by omega); clear hr29 hC29 hroom29 hi029 hsz29; have KY29 := Aside0.mk hy29; clear hy29; replace q29 := eq_true q29) | ((with_reducible refine gate_callee (f := 19) rfl ?_); refine goesL_ (some 60) rfl rfl Try.func19 (by kernel_rfl) rfl #[.slice A0 y425.length c0] rfl (by (try simp only [List.map_toArray, List.map_cons, List.map_nil]); first | done | rfl | (simp only [List.length_drop, List.length_take]; rfl)) ?_; (with_reducible refine (record_Expiry.calls kj3 _ _ y425 t429 false _ ?side1 ?side2 A16.out).mono ?_); (case side1 => repeat (first | exact (Kd.C_below HR428.out HB.out) | (with_reducible refine Kd.C_alloc ?_ _) | (with_reducible refine Kd.C_drewN ?_ _) | (with_reducible refine Kd.C_drew ?_))); (case side2 => exact HC428.out); rintro e w30 ⟨rfl, hb⟩; refine ⟨_, rfl, ?_⟩; have n0_ := Aside0.mk (below_step (by repeat (first | (with_reducible first | exact HB.out | apply below_alloc | apply pw_below_drewN | apply below_drew1) | exact HB.out)) hb); clear HB; have HB := n0_; clear n0_; (try clear hb); (try clear hb2); (try clear hk); (try clear hi); have p431 : 0 ≤ ((ji13) : Int) := of_decide_eq_true (by first | (with_reducible assumption) | assumption); have q431 : (ji13) < (l0.length : Int) := of_decide_eq_true (by first | (with_reducible assumption) | assumption); obtain ⟨ad431, e431, hx431_0, hx431_1⟩ := at_T44 HR0.out (ji13) p431 q431; cases e431; replace hx431_0 := (HB.out.cell (World.block_lt_of_cell? w _ hx431_0)).trans hx431_0; replace hx431_1 := (HB.out.cell (World.block_lt_of_cell? w _ hx431_1)).trans hx431_1; replace p431 := eq_true p431; replace q431 := eq_true q431) | (go_at_call 16; (with_reducible refine (record_Right.calls kj3 _ _ y425 true _ ?side1 ?side2 A21.out).mono ?_); (case side1 => repeat (first | exact (Kd.C_below HR428.out HB.out) | (with_reducible refine Kd.C_alloc ?_ _) | (with_reducible refine Kd.C_drewN ?_ _) | (with_reducible refine Kd.C_drew ?_))); (case side2 => exact HC428.out); rintro e w31 ⟨rfl, hb⟩; have n0_ := Aside0.mk (below_step (by repeat (first | (with_reducible first | exact HB.out | apply below_alloc | apply pw_below_drewN | apply below_drew1) | exact HB.out)) hb); clear HB; have HB := n0_; clear n0_; (try clear hb); (try clear hb2); (try clear hk); (try clear hi)) | (go_at_call 24; (with_reducible refine (record_Sum.calls kj3 _ _ y425 a1 t433 _ ?side1 ?side2 A23.out).mono ?_); (case side1 => repeat (first | exact (Kd.C_below HR428.out HB.out) | (with_reducible refine Kd.C_alloc ?_ _) | (with_reducible refine Kd.C_drewN ?_ _) | (with_reducible refine Kd.C_drew ?_))); (case side2 => exact HC428.out); rintro e w32 ⟨rfl, hb⟩; have n0_ := Aside0.mk (below_step (by repeat (first | (with_reducible first | exact HB.out | apply below_alloc | apply pw_below_drewN | apply below_drew1) | exact HB.out)) hb); clear HB; have HB := n0_; clear n0_; (try clear hb); (try clear hb2); (try clear hk); (try clear hi)) | (go_at_call 24; (with_reducible refine (record_Sum.calls kj3 _ _ l0 a1 t434 _ ?side1 ?side2 A24.out).mono ?_); (case side1 => repeat (first | exact (Kd.C_below HR0.out HB.out) | (with_reducible refine Kd.C_alloc ?_ _) | (with_reducible refine Kd.C_drewN ?_ _) | (with_reducible refine Kd.C_drew ?_))); (case side2 => exact HC0.out); rintro e w33 ⟨rfl, hb⟩; have n0_ := Aside0.mk (below_step (by repeat (first | (with_reducible first | exact HB.out | apply below_alloc | apply pw_below_drewN | apply below_drew1) | exact HB.out)) hb); clear HB; have HB := n0_; clear n0_; (try clear hb); (try clear hb2); (try clear hk); (try clear hi)) | (go_at_call 26; (with_reducible refine (record_Step.calls kj3 _ _ y425 a1 t435 _ ?side1 ?side2 A26.out).mono ?_); (case side1 => repeat (first | exact (Kd.C_below HR428.out HB.out) | (with_reducible refine Kd.C_alloc ?_ _) | (with_reducible refine Kd.C_drewN ?_ _) | (with_reducible refine Kd.C_drew ?_))); (case side2 => exact HC428.out); rintro e w34 ⟨rfl, hb⟩; have n0_ := Aside0.mk (below_step (by repeat (first | (with_reducible first | exact HB.out | apply below_alloc | apply pw_below_drewN | apply below_drew1) | exact HB.out)) hb); clear HB; have HB := n0_; clear n0_; (try clear hb); (try clear hb2); (try clear hk); (try clear hi)) | (go_at_call 26; (with_reducible refine (record_Step.calls kj3 _ _ l0 a1 t436 _ ?side1 ?side2 A27.out).mono ?_); (case side1 => repeat (first | exact (Kd.C_below HR0.out HB.out) | (with_reducible refine Kd.C_alloc ?_ _) | (with_reducible refine Kd.C_drewN ?_ _) | (with_reducible refine Kd.C_drew ?_))); (case side2 => exact HC0.out); rintro e w35 ⟨rfl, hb⟩; have n0_ := Aside0.mk (below_step (by repeat (first | (with_reducible first | exact HB.out | apply below_alloc | apply pw_below_drewN | apply below_drew1) | exact HB.out)) hb); clear HB; have HB := n0_; clear n0_; (try clear hb); (try clear hb2); (try clear hk); (try clear hi)))
                            go_ret
                            exact ⟨by first | rfl | (simp [errW_none, errW_some] <;> rfl) | (simp only [← hji13]; first | rfl | (simp [errW_none, errW_some] <;> rfl)) | (simp [*, errW_none, errW_some] <;> rfl), by repeat (first | (with_reducible first | exact HB.out | apply below_alloc | apply pw_below_drewN | apply below_drew1) | exact HB.out)⟩
                          · rw [if_neg c25] at H
                            exact absurd H (by simp)
                        · replace c22 := Bool.eq_false_iff.mpr c22
                          subst c22
                          have H1 : (none) = some r := by rw [if_neg (show ¬ (false = true) by decide)] at H; exact H
                          clear H
                          have H := H1
                          clear H1
                          exact absurd H (by simp)
                    · rw [if_neg c19] at H
                      exact absurd H (by simp)
                  · rw [if_neg c18] at H
                    exact absurd H (by simp)
                · replace c17 := Bool.eq_false_iff.mpr c17
                  subst c17
                  have H1 : (none) = some r := by rw [if_neg (show ¬ (false = true) by decide)] at H; exact H
                  clear H
                  have H := H1
                  clear H1
                  exact absurd H (by simp)
              · rw [if_neg c15] at H
                exact absurd H (by simp)
            · rw [if_neg c14] at H
              exact absurd H (by simp)
        · replace c11 := Bool.eq_false_iff.mpr c11
          subst c11
          have H1 : (if t419 = true then (if t421 = 0 then (if (l0.length : Int) = 0 then (some true) else (if 0 ≤ (wrap64 ((l0.length : Int) - 1)) then (if (wrap64 ((l0.length : Int) - 1)) < (l0.length : Int) then ((record_Step.f kj3 l0 ((rd_T44 l0 (wrap64 ((l0.length : Int) - 1))).f0)).bind fun t424 => (some (t424 != 0))) else (none)) else (none))) else (none)) else (none)) = some r := by rw [if_neg (show ¬ (false = true) by decide)] at H; exact H
          clear H
          have H := H1
          clear H1
          by_cases c36 : t419 = true
          · subst c36
            have H1 : (if t421 = 0 then (if (l0.length : Int) = 0 then (some true) else (if 0 ≤ (wrap64 ((l0.length : Int) - 1)) then (if (wrap64 ((l0.length : Int) - 1)) < (l0.length : Int) then ((record_Step.f kj3 l0 ((rd_T44 l0 (wrap64 ((l0.length : Int) - 1))).f0)).bind fun t424 => (some (t424 != 0))) else (none)) else (none))) else (none)) = some r := by rw [if_pos rfl] at H; exact H
            clear H
            have H := H1
            clear H1
            by_cases c37 : t421 = 0
            · rw [if_pos c37] at H
              have c37b0 : (t421 == 0) = true := beq_iff_eq.mpr c37
              have c37b1 : (t421 != 0) = false := bne_eq_false_iff_eq.mpr c37
              clear c37
              by_cases c38 : (l0.length : Int) = 0
              · rw [if_pos c38] at H
                have c38b0 : ((l0.length : Int) == 0) = true := beq_iff_eq.mpr c38
                have c38b1 : ((l0.length : Int) != 0) = false := bne_eq_false_iff_eq.mpr c38
                clear c38
                obtain rfl := Option.some.inj H
                go_wp2_with (first | ((with_reducible refine gate_callee (f := 19) rfl ?_); refine goesL_ (some 23) rfl rfl Try.func19 (by kernel_rfl) rfl #[.slice A0 l0.length c0] rfl (by (try simp only [List.map_toArray, List.map_cons, List.map_nil]); first | done | rfl | (simp only [List.length_drop, List.length_take]; rfl)) ?_; (with_reducible refine (record_Expiry.calls kj3 _ _ l0 t421 false _ ?side1 ?side2 A10.out).mono ?_); (case side1 => repeat (first | exact (Kd.C_below HR0.out HB.out) | (with_reducible refine Kd.C_alloc ?_ _) | (with_reducible refine Kd.C_drewN ?_ _) | (with_reducible refine Kd.C_drew ?_))); (case side2 => exact HC0.out); rintro e w39 ⟨rfl, hb⟩; refine ⟨_, rfl, ?_⟩; have n0_ := Aside0.mk (below_step (by repeat (first | (with_reducible first | exact HB.out | apply below_alloc | apply pw_below_drewN | apply below_drew1) | exact HB.out)) hb); clear HB; have HB := n0_; clear n0_; (try clear hb); (try clear hb2); (try clear hk); (try clear hi)))
                go_ret
                exact ⟨by first | rfl | (simp [errW_none, errW_some] <;> rfl) | (simp [*, errW_none, errW_some] <;> rfl), by repeat (first | (with_reducible first | exact HB.out | apply below_alloc | apply pw_below_drewN | apply below_drew1) | exact HB.out)⟩
              · rw [if_neg c38] at H
                have c38b0 : ((l0.length : Int) == 0) = false := beq_eq_false_iff_ne.mpr c38
                have c38b1 : ((l0.length : Int) != 0) = true := bne_iff_ne.mpr c38
                have c38b2 : ¬ (l0 = []) := fun h_ => c38 (by rw [h_]; rfl)
                obtain ⟨ji40, hji40⟩ : ∃ j_ : Int, (wrap64 ((l0.length : Int) - 1)) = j_ := ⟨_, rfl⟩
                replace H : (if 0 ≤ (ji40) then (if (ji40) < (l0.length : Int) then ((record_Step.f kj3 l0 ((rd_T44 l0 (ji40)).f0)).bind fun t424 => (some (t424 != 0))) else (none)) else (none)) = some r := by first | (rw [hji40] at H; exact H) | (simp only [hji40] at H ⊢; exact H)
                (try rw [hji40] at A10)
                have hji40w : (IntKind.i64.wrap ((l0.length : Int) - 1)) = ji40 := (i64_w _).trans hji40
                by_cases c41 : 0 ≤ (ji40)
                · rw [if_pos c41] at H
                  have c41b0 : decide (0 ≤ (ji40)) = true := decide_eq_true c41
                  clear c41
                  by_cases c42 : (ji40) < (l0.length : Int)
                  · rw [if_pos c42] at H
                    have c42b0 : decide ((ji40) < (l0.length : Int)) = true := decide_eq_true c42
                    clear c42
                    replace H := Option.bind_eq_some_iff.mp H
                    obtain ⟨t424, A430, H⟩ := H
                    replace H : (some (t424 != 0)) = some r := H
                    have A43 := Aside0.mk A430
                    clear A430
                    obtain rfl := Option.some.inj H
                    go_wp2_with (first | ((with_reducible refine gate_callee (f := 19) rfl ?_); refine goesL_ (some 23) rfl rfl Try.func19 (by kernel_rfl) rfl #[.slice A0 l0.length c0] rfl (by (try simp only [List.map_toArray, List.map_cons, List.map_nil]); first | done | rfl | (simp only [List.length_drop, List.length_take]; rfl)) ?_; (with_reducible refine (record_Expiry.calls kj3 _ _ l0 t421 false _ ?side1 ?side2 A10.out).mono ?_); (case side1 => repeat (first | exact (Kd.C_below HR0.out HB.out) | (with_reducible refine Kd.C_alloc ?_ _) | (with_reducible refine Kd.C_drewN ?_ _) | (with_reducible refine Kd.C_drew ?_))); (case side2 => exact HC0.out); rintro e w44 ⟨rfl, hb⟩; refine ⟨_, rfl, ?_⟩; have n0_ := Aside0.mk (below_step (by repeat (first | (with_reducible first | exact HB.out | apply below_alloc | apply pw_below_drewN | apply below_drew1) | exact HB.out)) hb); clear HB; have HB := n0_; clear n0_; (try clear hb); (try clear hb2); (try clear hk); (try clear hi); have p423 : 0 ≤ ((ji40) : Int) := of_decide_eq_true (by first | (with_reducible assumption) | assumption); have q423 : (ji40) < (l0.length : Int) := of_decide_eq_true (by first | (with_reducible assumption) | assumption); obtain ⟨ad423, e423, hx423_0, hx423_1⟩ := at_T44 HR0.out (ji40) p423 q423; cases e423; replace hx423_0 := (HB.out.cell (World.block_lt_of_cell? w _ hx423_0)).trans hx423_0; replace hx423_1 := (HB.out.cell (World.block_lt_of_cell? w _ hx423_1)).trans hx423_1; replace p423 := eq_true p423; replace q423 := eq_true q423) | (go_at_call 26; (with_reducible refine (record_Step.calls kj3 _ _ l0 ((rd_T44 l0 (ji40)).f0) t424 _ ?side1 ?side2 A43.out).mono ?_); (case side1 => repeat (first | exact (Kd.C_below HR0.out HB.out) | (with_reducible refine Kd.C_alloc ?_ _) | (with_reducible refine Kd.C_drewN ?_ _) | (with_reducible refine Kd.C_drew ?_))); (case side2 => exact HC0.out); rintro e w45 ⟨rfl, hb⟩; have n0_ := Aside0.mk (below_step (by repeat (first | (with_reducible first | exact HB.out | apply below_alloc | apply pw_below_drewN | apply below_drew1) | exact HB.out)) hb); clear HB; have HB := n0_; clear n0_; (try clear hb); (try clear hb2); (try clear hk); (try clear hi)))
                    go_ret
                    exact ⟨by first | rfl | (simp [errW_none, errW_some] <;> rfl) | (simp only [← hji40]; first | rfl | (simp [errW_none, errW_some] <;> rfl)) | (simp [*, errW_none, errW_some] <;> rfl), by repeat (first | (with_reducible first | exact HB.out | apply below_alloc | apply pw_below_drewN | apply below_drew1) | exact HB.out)⟩
                  · rw [if_neg c42] at H
                    exact absurd H (by simp)
                · rw [if_neg c41] at H
                  exact absurd H (by simp)
            · rw [if_neg c37] at H
              exact absurd H (by simp)
          · replace c36 := Bool.eq_false_iff.mpr c36
            subst c36
            have H1 : (none) = some r := by rw [if_neg (show ¬ (false = true) by decide)] at H; exact H
            clear H
            have H := H1
            clear H1
            exact absurd H (by simp)

/-! ### epactlaw12_RecordParts: function 7 -/
def epactlaw12_RecordParts.j0 : Nat → List (S44) → Int → Bool → Bool → Option (Bool)
  | 0, _, _, _, _ => none
  | k + 1, x0, x1, x5, x23 => if x23 = true then (some x5) else ((record_Check.f k x0).bind fun bt438 => (if 0 ≤ x1 then (if x1 ≤ (x0.length : Int) then ((record_Check.f k (x0.take (x1 : Int).toNat)).bind fun bt444 => (if bt438.2 = 0 then (if x5 = true then (if bt438.1 = (x0.length : Int) then (if bt444.2 = 0 then (some (bt444.1 == x1)) else (none)) else (none)) else (none)) else (if bt444.2 = 0 then (if x5 = true then (if bt444.1 = x1 then (some (decide (bt438.1 ≥ (wrap64 (x1 - 1))))) else (none)) else (none)) else (if x5 = true then (if bt444.1 < x1 then (some (decide (bt438.1 ≤ bt444.1))) else (none)) else (none))))) else (none)) else (none)))
def epactlaw12_RecordParts.f (k : Nat) (l0 : List (S44)) (a1 : Int) : Option (Bool) := (epactlaw12_small.f k).bind fun t437 => (if (l0.length : Int) > 300 then (epactlaw12_RecordParts.j0 k l0 a1 t437 true) else (if a1 < 0 then (epactlaw12_RecordParts.j0 k l0 a1 t437 true) else (epactlaw12_RecordParts.j0 k l0 a1 t437 (decide (a1 > (l0.length : Int))))))
theorem epactlaw12_RecordParts.mono_l : ∀ k, (∀ y0 y1 y2 y3, LeO (epactlaw12_RecordParts.j0 k y0 y1 y2 y3) (epactlaw12_RecordParts.j0 (k + 1) y0 y1 y2 y3))
  | 0 => fun _ _ _ _ r h => by simp [epactlaw12_RecordParts.j0] at h
  | k + 1 => by
    have ih0 := epactlaw12_RecordParts.mono_l k
    · intro y0 y1 y2 y3
      unfold epactlaw12_RecordParts.j0
      repeat' first
      | (with_reducible exact ih0 _ _ _ _)
      | (with_reducible exact epactlaw12_small.mono _)
      | (with_reducible exact record_Check.mono _ _)
      | (with_reducible exact LeO.refl _)
      | (with_reducible exact LeO.none _)
      | (with_reducible refine LeO.ite ?_ ?_)
      | (with_reducible refine LeO.bind ?_ (fun _ => ?_))
      | exact ih0 _ _ _ _
      | exact epactlaw12_small.mono _
      | exact record_Check.mono _ _
      | exact LeO.none _
      | refine LeO.ite ?_ ?_
      | refine LeO.bind ?_ (fun _ => ?_)
theorem epactlaw12_RecordParts.mono : ∀ a0 a1 k, LeO (epactlaw12_RecordParts.f k a0 a1) (epactlaw12_RecordParts.f (k + 1) a0 a1) := by
  intro a0 a1 k
  have ih0 := epactlaw12_RecordParts.mono_l k
  unfold epactlaw12_RecordParts.f
  repeat' first
      | (with_reducible exact ih0 _ _ _ _)
      | (with_reducible exact epactlaw12_small.mono _)
      | (with_reducible exact record_Check.mono _ _)
      | (with_reducible exact LeO.refl _)
      | (with_reducible exact LeO.none _)
      | (with_reducible refine LeO.ite ?_ ?_)
      | (with_reducible refine LeO.bind ?_ (fun _ => ?_))
      | exact ih0 _ _ _ _
      | exact epactlaw12_small.mono _
      | exact record_Check.mono _ _
      | exact LeO.none _
      | refine LeO.ite ?_ ?_
      | refine LeO.bind ?_ (fun _ => ?_)
set_option maxHeartbeats 8000000 in
set_option maxRecDepth 100000 in
theorem epactlaw12_RecordParts.calls (k : Nat) (A0 : Option Addr) (c0 : Nat) (l0 : List (S44)) (a1 : Int) (r : Bool) (w : World) (hr0 : Kd.C k44 w A0 l0.length l0) (hc0 : l0.length ≤ c0) (h : epactlaw12_RecordParts.f k l0 a1 = some r) :
    Calls Try.prog 7 #[.slice A0 l0.length c0, .int .i64 a1] w fun e w' => e = .returned (.bool r) ∧ Below w.heap.size w w' := by
  have HR0 := Aside0.mk hr0
  have HC0 := Aside0.mk hc0
  clear hr0 hc0
  have HB := Aside0.mk (Below.refl w.heap.size w)
  have H : ((epactlaw12_small.f k).bind fun t437 => (if (l0.length : Int) > 300 then (epactlaw12_RecordParts.j0 k l0 a1 t437 true) else (if a1 < 0 then (epactlaw12_RecordParts.j0 k l0 a1 t437 true) else (epactlaw12_RecordParts.j0 k l0 a1 t437 (decide (a1 > (l0.length : Int))))))) = some r := h
  clear h
  replace H := Option.bind_eq_some_iff.mp H
  obtain ⟨t437, A30, H⟩ := H
  replace H : (if (l0.length : Int) > 300 then (epactlaw12_RecordParts.j0 k l0 a1 t437 true) else (if a1 < 0 then (epactlaw12_RecordParts.j0 k l0 a1 t437 true) else (epactlaw12_RecordParts.j0 k l0 a1 t437 (decide (a1 > (l0.length : Int)))))) = some r := H
  have A3 := Aside0.mk A30
  clear A30
  have HC4 := Aside0.mk H
  clear H
  go_enter Try.func7, Try.ntmps7
  go_upto_region 2 with (first | ((with_reducible refine gate_callee (f := 9) rfl ?_); refine goesL_ (some 10) rfl rfl Try.func9 (by kernel_rfl) rfl #[] rfl (by (try simp only [List.map_toArray, List.map_cons, List.map_nil]); first | done | rfl | (simp only [List.length_drop, List.length_take]; rfl)) ?_; (with_reducible refine (epactlaw12_small.calls k  t437 _ A3.out).mono ?_); rintro e w5 ⟨rfl, hb⟩; refine ⟨_, rfl, ?_⟩; have n0_ := Aside0.mk (below_step (by repeat (first | (with_reducible first | exact HB.out | apply below_alloc | apply pw_below_drewN | apply below_drew1) | exact HB.out)) hb); clear HB; have HB := n0_; clear n0_; (try clear hb); (try clear hb2); (try clear hk); (try clear hi)))
  (try simp only [Act.put, List.setIfInBounds_toArray, List.set_cons_zero, List.set_cons_succ])
  go_cut [23] (fun v23 wc => ∃ (kq : Nat) (x23_3 : Bool), v23 = .bool x23_3 ∧ Aside0 (epactlaw12_RecordParts.j0 kq l0 a1 t437 x23_3 = some r) ∧ Aside0 (kq ≤ k) ∧ Aside0 (Below w.heap.size w wc))
  case first =>
    have H := HC4.out
    clear HC4
    by_cases c6 : (l0.length : Int) > 300
    · rw [if_pos c6] at H
      have c6b0 : decide (300 < (l0.length : Int)) = true := decide_eq_true c6
      have c6b1 : decide (300 < l0.length) = true := decide_eq_true (by omega)
      clear c6
      (first | rw [c6b0] | (simp only [i64_w, i32_w]; rw [c6b0]) | skip)
      have H' := Aside0.mk H
      clear H
      go_wp2
      go_meet
      case rel => exact ⟨_, (true), (by first | rfl | (simp; done) | (simp [*]; done)), H', ⟨by first | omega | exact Nat.le_refl _⟩, ⟨by repeat (first | (with_reducible first | exact HB.out | apply below_alloc | apply pw_below_drewN | apply below_drew1) | exact HB.out)⟩⟩
    · rw [if_neg c6] at H
      have c6b0 : decide (300 < (l0.length : Int)) = false := decide_eq_false c6
      have c6b1 : decide (300 < l0.length) = false := decide_eq_false (by omega)
      clear c6
      (first | rw [c6b0] | (simp only [i64_w, i32_w]; rw [c6b0]) | skip)
      by_cases c7 : a1 < 0
      · rw [if_pos c7] at H
        have c7b0 : decide (a1 < 0) = true := decide_eq_true c7
        clear c7
        have H' := Aside0.mk H
        clear H
        go_wp2
        go_meet
        case rel => exact ⟨_, (true), (by first | rfl | (simp; done) | (simp [*]; done)), H', ⟨by first | omega | exact Nat.le_refl _⟩, ⟨by repeat (first | (with_reducible first | exact HB.out | apply below_alloc | apply pw_below_drewN | apply below_drew1) | exact HB.out)⟩⟩
      · rw [if_neg c7] at H
        have c7b0 : decide (a1 < 0) = false := decide_eq_false c7
        clear c7
        have H' := Aside0.mk H
        clear H
        go_wp2
        go_meet
        case rel => exact ⟨_, (decide (a1 > (l0.length : Int))), (by first | rfl | (simp; done) | (simp [*]; done)), H', ⟨by first | omega | exact Nat.le_refl _⟩, ⟨by repeat (first | (with_reducible first | exact HB.out | apply below_alloc | apply pw_below_drewN | apply below_drew1) | exact HB.out)⟩⟩
  case rest =>
    clear HC4
    try clear p2
    try clear c6
    try clear c6b0
    try clear c6b1
    try clear c7
    try clear c7b0
    obtain ⟨kq, x23_3, rfl, HA, HJ3, HB⟩ := hcut
    cases kq with
    | zero => exact absurd HA.out (by simp [epactlaw12_RecordParts.j0])
    | succ kj3 =>
      have H := HA.out
      clear HA
      simp only [epactlaw12_RecordParts.j0] at H
      by_cases c8 : x23_3 = true
      · subst c8
        have H1 : (some t437) = some r := by rw [if_pos rfl] at H; exact H
        clear H
        have H := H1
        clear H1
        obtain rfl := Option.some.inj H
        go_wp2
        go_ret
        exact ⟨by first | rfl | (simp [errW_none, errW_some] <;> rfl) | (simp [*, errW_none, errW_some] <;> rfl), by repeat (first | (with_reducible first | exact HB.out | apply below_alloc | apply pw_below_drewN | apply below_drew1) | exact HB.out)⟩
      · replace c8 := Bool.eq_false_iff.mpr c8
        subst c8
        have H1 : ((record_Check.f kj3 l0).bind fun bt438 => (if 0 ≤ a1 then (if a1 ≤ (l0.length : Int) then ((record_Check.f kj3 (l0.take (a1 : Int).toNat)).bind fun bt444 => (if bt438.2 = 0 then (if t437 = true then (if bt438.1 = (l0.length : Int) then (if bt444.2 = 0 then (some (bt444.1 == a1)) else (none)) else (none)) else (none)) else (if bt444.2 = 0 then (if t437 = true then (if bt444.1 = a1 then (some (decide (bt438.1 ≥ (wrap64 (a1 - 1))))) else (none)) else (none)) else (if t437 = true then (if bt444.1 < a1 then (some (decide (bt438.1 ≤ bt444.1))) else (none)) else (none))))) else (none)) else (none))) = some r := by rw [if_neg (show ¬ (false = true) by decide)] at H; exact H
        clear H
        have H := H1
        clear H1
        replace H := Option.bind_eq_some_iff.mp H
        obtain ⟨⟨t438, t439⟩, A90, H⟩ := H
        replace H : (if 0 ≤ a1 then (if a1 ≤ (l0.length : Int) then ((record_Check.f kj3 (l0.take (a1 : Int).toNat)).bind fun bt444 => (if t439 = 0 then (if t437 = true then (if t438 = (l0.length : Int) then (if bt444.2 = 0 then (some (bt444.1 == a1)) else (none)) else (none)) else (none)) else (if bt444.2 = 0 then (if t437 = true then (if bt444.1 = a1 then (some (decide (t438 ≥ (wrap64 (a1 - 1))))) else (none)) else (none)) else (if t437 = true then (if bt444.1 < a1 then (some (decide (t438 ≤ bt444.1))) else (none)) else (none))))) else (none)) else (none)) = some r := H
        have A9 := Aside0.mk A90
        clear A90
        by_cases c10 : 0 ≤ a1
        · rw [if_pos c10] at H
          have c10b0 := eq_true c10
          have c10b1 : decide (0 ≤ a1) = true := decide_eq_true c10
          clear c10
          by_cases c11 : a1 ≤ (l0.length : Int)
          · rw [if_pos c11] at H
            have c11b0 := eq_true c11
            have c11b1 : decide (a1 ≤ (l0.length : Int)) = true := decide_eq_true c11
            clear c11
            obtain ⟨y440, hy440⟩ : ∃ y_ : List (S44), y_ = (l0.take (a1 : Int).toNat) := ⟨_, rfl⟩
            replace H : ((record_Check.f kj3 y440).bind fun bt444 => (if t439 = 0 then (if t437 = true then (if t438 = (l0.length : Int) then (if bt444.2 = 0 then (some (bt444.1 == a1)) else (none)) else (none)) else (none)) else (if bt444.2 = 0 then (if t437 = true then (if bt444.1 = a1 then (some (decide (t438 ≥ (wrap64 (a1 - 1))))) else (none)) else (none)) else (if t437 = true then (if bt444.1 < a1 then (some (decide (t438 ≤ bt444.1))) else (none)) else (none))))) = some r := by first | (rw [hy440]; with_reducible exact H) | (have H2_ := (Option.bind_some _ _).symm.trans H; rw [hy440]; with_reducible exact H2_) | (have H2_ := (Option.bind_some _ _).symm.trans H; with_reducible exact H2_) | with_reducible exact H | (rw [hy440]; exact H) | exact H
            have Ny440 := Aside0.mk hy440
            clear hy440
            replace H := Option.bind_eq_some_iff.mp H
            obtain ⟨⟨t444, t445⟩, A120, H⟩ := H
            replace H : (if t439 = 0 then (if t437 = true then (if t438 = (l0.length : Int) then (if t445 = 0 then (some (t444 == a1)) else (none)) else (none)) else (none)) else (if t445 = 0 then (if t437 = true then (if t444 = a1 then (some (decide (t438 ≥ (wrap64 (a1 - 1))))) else (none)) else (none)) else (if t437 = true then (if t444 < a1 then (some (decide (t438 ≤ t444))) else (none)) else (none)))) = some r := H
            have A12 := Aside0.mk A120
            clear A120
            by_cases c13 : t439 = 0
            · rw [if_pos c13] at H
              have c13b0 : (t439 == 0) = true := beq_iff_eq.mpr c13
              have c13b1 : (t439 != 0) = false := bne_eq_false_iff_eq.mpr c13
              clear c13
              by_cases c14 : t437 = true
              · subst c14
                have H1 : (if t438 = (l0.length : Int) then (if t445 = 0 then (some (t444 == a1)) else (none)) else (none)) = some r := by rw [if_pos rfl] at H; exact H
                clear H
                have H := H1
                clear H1
                by_cases c15 : t438 = (l0.length : Int)
                · rw [if_pos c15] at H
                  have c15b0 : (t438 == (l0.length : Int)) = true := beq_iff_eq.mpr c15
                  have c15b1 : (t438 != (l0.length : Int)) = false := bne_eq_false_iff_eq.mpr c15
                  clear c15
                  by_cases c16 : t445 = 0
                  · rw [if_pos c16] at H
                    have c16b0 : (t445 == 0) = true := beq_iff_eq.mpr c16
                    have c16b1 : (t445 != 0) = false := bne_eq_false_iff_eq.mpr c16
                    clear c16
                    obtain rfl := Option.some.inj H
                    go_wp2_with (first | ((with_reducible refine gate_callee (f := 13) rfl ?_); refine goesL_ (some 27) rfl rfl Try.func13 (by kernel_rfl) rfl #[.slice A0 l0.length c0] rfl (by (try simp only [List.map_toArray, List.map_cons, List.map_nil]); first | done | rfl | (simp only [List.length_drop, List.length_take]; rfl)) ?_; (with_reducible refine (record_Check.calls kj3 _ _ l0 t438 t439 _ ?side1 ?side2 A9.out).mono ?_); (case side1 => repeat (first | exact (Kd.C_below HR0.out HB.out) | (with_reducible refine Kd.C_alloc ?_ _) | (with_reducible refine Kd.C_drewN ?_ _) | (with_reducible refine Kd.C_drew ?_))); (case side2 => exact HC0.out); rintro e w17 ⟨rfl, hb⟩; refine ⟨_, rfl, ?_⟩; have n0_ := Aside0.mk (below_step (by repeat (first | (with_reducible first | exact HB.out | apply below_alloc | apply pw_below_drewN | apply below_drew1) | exact HB.out)) hb); clear HB; have HB := n0_; clear n0_; (try clear hb); (try clear hb2); (try clear hk); (try clear hi); have q18 : (a1 : Int) ≤ ((l0.length : Int) : Int) := of_decide_eq_true (by first | (with_reducible assumption) | assumption); obtain ⟨i018, hi018, _, hsz18, _⟩ := info_parts info44; have hroom18 : l0.length ≤ c0 := HC0.out; have hC18 : Kd.C k44 _ A0 l0.length l0 := HR0.out; have hcut18 := cut_to (P := Try.prog) 25 44 .i64 Try.underlying25 hi018 A0 l0.length c0 a1 (of_decide_eq_true (by first | (with_reducible assumption) | assumption)) q18 hroom18; have hr18 := Kd.C_take (m := (a1 : Int).toNat) hC18 (by omega); have hy18 : y440.length = (a1 : Int).toNat := (by rw [Ny440.out, List.length_take]; omega); rw [← Ny440.out] at hr18; rw [← hy18] at hcut18; have HR443 := Aside0.mk hr18; have HC443 := Aside0.mk (show y440.length ≤ c0 from by omega); clear hr18 hC18 hroom18 hi018 hsz18; have KY18 := Aside0.mk hy18; clear hy18; replace q18 := eq_true q18) | ((with_reducible refine gate_callee (f := 13) rfl ?_); refine goesL_ (some 34) rfl rfl Try.func13 (by kernel_rfl) rfl #[.slice A0 y440.length c0] rfl (by (try simp only [List.map_toArray, List.map_cons, List.map_nil]); first | done | rfl | (simp only [List.length_drop, List.length_take]; rfl)) ?_; (with_reducible refine (record_Check.calls kj3 _ _ y440 t444 t445 _ ?side1 ?side2 A12.out).mono ?_); (case side1 => repeat (first | exact (Kd.C_below HR443.out HB.out) | (with_reducible refine Kd.C_alloc ?_ _) | (with_reducible refine Kd.C_drewN ?_ _) | (with_reducible refine Kd.C_drew ?_))); (case side2 => exact HC443.out); rintro e w19 ⟨rfl, hb⟩; refine ⟨_, rfl, ?_⟩; have n0_ := Aside0.mk (below_step (by repeat (first | (with_reducible first | exact HB.out | apply below_alloc | apply pw_below_drewN | apply below_drew1) | exact HB.out)) hb); clear HB; have HB := n0_; clear n0_; (try clear hb); (try clear hb2); (try clear hk); (try clear hi)))
                    go_ret
                    exact ⟨by first | rfl | (simp [errW_none, errW_some] <;> rfl) | (simp [*, errW_none, errW_some] <;> rfl), by repeat (first | (with_reducible first | exact HB.out | apply below_alloc | apply pw_below_drewN | apply below_drew1) | exact HB.out)⟩
                  · rw [if_neg c16] at H
                    exact absurd H (by simp)
                · rw [if_neg c15] at H
                  exact absurd H (by simp)
              · replace c14 := Bool.eq_false_iff.mpr c14
                subst c14
                have H1 : (none) = some r := by rw [if_neg (show ¬ (false = true) by decide)] at H; exact H
                clear H
                have H := H1
                clear H1
                exact absurd H (by simp)
            · rw [if_neg c13] at H
              have c13b0 : (t439 == 0) = false := beq_eq_false_iff_ne.mpr c13
              have c13b1 : (t439 != 0) = true := bne_iff_ne.mpr c13
              by_cases c20 : t445 = 0
              · rw [if_pos c20] at H
                have c20b0 : (t445 == 0) = true := beq_iff_eq.mpr c20
                have c20b1 : (t445 != 0) = false := bne_eq_false_iff_eq.mpr c20
                clear c20
                by_cases c21 : t437 = true
                · subst c21
                  have H1 : (if t444 = a1 then (some (decide (t438 ≥ (wrap64 (a1 - 1))))) else (none)) = some r := by rw [if_pos rfl] at H; exact H
                  clear H
                  have H := H1
                  clear H1
                  by_cases c22 : t444 = a1
                  · rw [if_pos c22] at H
                    have c22b0 : (t444 == a1) = true := beq_iff_eq.mpr c22
                    have c22b1 : (t444 != a1) = false := bne_eq_false_iff_eq.mpr c22
                    clear c22
                    obtain rfl := Option.some.inj H
                    go_wp2_with (first | ((with_reducible refine gate_callee (f := 13) rfl ?_); refine goesL_ (some 27) rfl rfl Try.func13 (by kernel_rfl) rfl #[.slice A0 l0.length c0] rfl (by (try simp only [List.map_toArray, List.map_cons, List.map_nil]); first | done | rfl | (simp only [List.length_drop, List.length_take]; rfl)) ?_; (with_reducible refine (record_Check.calls kj3 _ _ l0 t438 t439 _ ?side1 ?side2 A9.out).mono ?_); (case side1 => repeat (first | exact (Kd.C_below HR0.out HB.out) | (with_reducible refine Kd.C_alloc ?_ _) | (with_reducible refine Kd.C_drewN ?_ _) | (with_reducible refine Kd.C_drew ?_))); (case side2 => exact HC0.out); rintro e w23 ⟨rfl, hb⟩; refine ⟨_, rfl, ?_⟩; have n0_ := Aside0.mk (below_step (by repeat (first | (with_reducible first | exact HB.out | apply below_alloc | apply pw_below_drewN | apply below_drew1) | exact HB.out)) hb); clear HB; have HB := n0_; clear n0_; (try clear hb); (try clear hb2); (try clear hk); (try clear hi); have q24 : (a1 : Int) ≤ ((l0.length : Int) : Int) := of_decide_eq_true (by first | (with_reducible assumption) | assumption); obtain ⟨i024, hi024, _, hsz24, _⟩ := info_parts info44; have hroom24 : l0.length ≤ c0 := HC0.out; have hC24 : Kd.C k44 _ A0 l0.length l0 := HR0.out; have hcut24 := cut_to (P := Try.prog) 25 44 .i64 Try.underlying25 hi024 A0 l0.length c0 a1 (of_decide_eq_true (by first | (with_reducible assumption) | assumption)) q24 hroom24; have hr24 := Kd.C_take (m := (a1 : Int).toNat) hC24 (by omega); have hy24 : y440.length = (a1 : Int).toNat := (by rw [Ny440.out, List.length_take]; omega); rw [← Ny440.out] at hr24; rw [← hy24] at hcut24; have HR443 := Aside0.mk hr24; have HC443 := Aside0.mk (show y440.length ≤ c0 from by omega); clear hr24 hC24 hroom24 hi024 hsz24; have KY24 := Aside0.mk hy24; clear hy24; replace q24 := eq_true q24) | ((with_reducible refine gate_callee (f := 13) rfl ?_); refine goesL_ (some 34) rfl rfl Try.func13 (by kernel_rfl) rfl #[.slice A0 y440.length c0] rfl (by (try simp only [List.map_toArray, List.map_cons, List.map_nil]); first | done | rfl | (simp only [List.length_drop, List.length_take]; rfl)) ?_; (with_reducible refine (record_Check.calls kj3 _ _ y440 t444 t445 _ ?side1 ?side2 A12.out).mono ?_); (case side1 => repeat (first | exact (Kd.C_below HR443.out HB.out) | (with_reducible refine Kd.C_alloc ?_ _) | (with_reducible refine Kd.C_drewN ?_ _) | (with_reducible refine Kd.C_drew ?_))); (case side2 => exact HC443.out); rintro e w25 ⟨rfl, hb⟩; refine ⟨_, rfl, ?_⟩; have n0_ := Aside0.mk (below_step (by repeat (first | (with_reducible first | exact HB.out | apply below_alloc | apply pw_below_drewN | apply below_drew1) | exact HB.out)) hb); clear HB; have HB := n0_; clear n0_; (try clear hb); (try clear hb2); (try clear hk); (try clear hi)))
                    go_ret
                    exact ⟨by first | rfl | (simp [errW_none, errW_some] <;> rfl) | (simp [*, errW_none, errW_some] <;> rfl), by repeat (first | (with_reducible first | exact HB.out | apply below_alloc | apply pw_below_drewN | apply below_drew1) | exact HB.out)⟩
                  · rw [if_neg c22] at H
                    exact absurd H (by simp)
                · replace c21 := Bool.eq_false_iff.mpr c21
                  subst c21
                  have H1 : (none) = some r := by rw [if_neg (show ¬ (false = true) by decide)] at H; exact H
                  clear H
                  have H := H1
                  clear H1
                  exact absurd H (by simp)
              · rw [if_neg c20] at H
                have c20b0 : (t445 == 0) = false := beq_eq_false_iff_ne.mpr c20
                have c20b1 : (t445 != 0) = true := bne_iff_ne.mpr c20
                by_cases c26 : t437 = true
                · subst c26
                  have H1 : (if t444 < a1 then (some (decide (t438 ≤ t444))) else (none)) = some r := by rw [if_pos rfl] at H; exact H
                  clear H
                  have H := H1
                  clear H1
                  by_cases c27 : t444 < a1
                  · rw [if_pos c27] at H
                    have c27b0 : decide (t444 < a1) = true := decide_eq_true c27
                    clear c27
                    obtain rfl := Option.some.inj H
                    go_wp2_with (first | ((with_reducible refine gate_callee (f := 13) rfl ?_); refine goesL_ (some 27) rfl rfl Try.func13 (by kernel_rfl) rfl #[.slice A0 l0.length c0] rfl (by (try simp only [List.map_toArray, List.map_cons, List.map_nil]); first | done | rfl | (simp only [List.length_drop, List.length_take]; rfl)) ?_; (with_reducible refine (record_Check.calls kj3 _ _ l0 t438 t439 _ ?side1 ?side2 A9.out).mono ?_); (case side1 => repeat (first | exact (Kd.C_below HR0.out HB.out) | (with_reducible refine Kd.C_alloc ?_ _) | (with_reducible refine Kd.C_drewN ?_ _) | (with_reducible refine Kd.C_drew ?_))); (case side2 => exact HC0.out); rintro e w28 ⟨rfl, hb⟩; refine ⟨_, rfl, ?_⟩; have n0_ := Aside0.mk (below_step (by repeat (first | (with_reducible first | exact HB.out | apply below_alloc | apply pw_below_drewN | apply below_drew1) | exact HB.out)) hb); clear HB; have HB := n0_; clear n0_; (try clear hb); (try clear hb2); (try clear hk); (try clear hi); have q29 : (a1 : Int) ≤ ((l0.length : Int) : Int) := of_decide_eq_true (by first | (with_reducible assumption) | assumption); obtain ⟨i029, hi029, _, hsz29, _⟩ := info_parts info44; have hroom29 : l0.length ≤ c0 := HC0.out; have hC29 : Kd.C k44 _ A0 l0.length l0 := HR0.out; have hcut29 := cut_to (P := Try.prog) 25 44 .i64 Try.underlying25 hi029 A0 l0.length c0 a1 (of_decide_eq_true (by first | (with_reducible assumption) | assumption)) q29 hroom29; have hr29 := Kd.C_take (m := (a1 : Int).toNat) hC29 (by omega); have hy29 : y440.length = (a1 : Int).toNat := (by rw [Ny440.out, List.length_take]; omega); rw [← Ny440.out] at hr29; rw [← hy29] at hcut29; have HR443 := Aside0.mk hr29; have HC443 := Aside0.mk (show y440.length ≤ c0 from by omega); clear hr29 hC29 hroom29 hi029 hsz29; have KY29 := Aside0.mk hy29; clear hy29; replace q29 := eq_true q29) | ((with_reducible refine gate_callee (f := 13) rfl ?_); refine goesL_ (some 34) rfl rfl Try.func13 (by kernel_rfl) rfl #[.slice A0 y440.length c0] rfl (by (try simp only [List.map_toArray, List.map_cons, List.map_nil]); first | done | rfl | (simp only [List.length_drop, List.length_take]; rfl)) ?_; (with_reducible refine (record_Check.calls kj3 _ _ y440 t444 t445 _ ?side1 ?side2 A12.out).mono ?_); (case side1 => repeat (first | exact (Kd.C_below HR443.out HB.out) | (with_reducible refine Kd.C_alloc ?_ _) | (with_reducible refine Kd.C_drewN ?_ _) | (with_reducible refine Kd.C_drew ?_))); (case side2 => exact HC443.out); rintro e w30 ⟨rfl, hb⟩; refine ⟨_, rfl, ?_⟩; have n0_ := Aside0.mk (below_step (by repeat (first | (with_reducible first | exact HB.out | apply below_alloc | apply pw_below_drewN | apply below_drew1) | exact HB.out)) hb); clear HB; have HB := n0_; clear n0_; (try clear hb); (try clear hb2); (try clear hk); (try clear hi)))
                    go_ret
                    exact ⟨by first | rfl | (simp [errW_none, errW_some] <;> rfl) | (simp [*, errW_none, errW_some] <;> rfl), by repeat (first | (with_reducible first | exact HB.out | apply below_alloc | apply pw_below_drewN | apply below_drew1) | exact HB.out)⟩
                  · rw [if_neg c27] at H
                    exact absurd H (by simp)
                · replace c26 := Bool.eq_false_iff.mpr c26
                  subst c26
                  have H1 : (none) = some r := by rw [if_neg (show ¬ (false = true) by decide)] at H; exact H
                  clear H
                  have H := H1
                  clear H1
                  exact absurd H (by simp)
          · rw [if_neg c11] at H
            exact absurd H (by simp)
        · rw [if_neg c10] at H
          exact absurd H (by simp)

/-! ### leap_Find: function 46 -/
-- by hand: wip/hand
/-- is a table's row of days in order? -/
def leap_Find.Asc (l : List S47) : Prop := l.Pairwise (fun x y => x.f0 ≤ y.f0)
instance (l : List S47) : Decidable (leap_Find.Asc l) := by unfold leap_Find.Asc; exact inferInstance
def leap_Find.f (l0_0 : List (S47)) (a0_1 : Bool) (a0_2 : Int) (a1 : Int) : Option (Int) :=
  if l0_0.length < 4611686018427387904 ∧ leap_Find.Asc l0_0 then some ((l0_0.countP (fun y => !decide (a1 ≤ y.f0)) : Nat) : Int) else none
set_option maxHeartbeats 2000000 in
theorem leap_Find.clo (gt gd n c : Nat) (ad : Addr) (a1 x : Int) (i : Nat) (W : World) (hi : i < n)
    (h0 : W.cell? ⟨gt, 0, none⟩ = some (.slice (some ad) n c)) (hd : W.cell? ⟨gd, 0, none⟩ = some (.int .i64 a1)) (hc : W.cell? (ad.add (i * 3)) = some (.int .i64 x)) :
    Calls Try.prog 51 (#[.int .i64 i] ++ #[.pointer (some ⟨gt, 0, none⟩), .pointer (some ⟨gd, 0, none⟩)]) W fun e w' => e = .returned (.bool (decide (a1 ≤ x))) ∧ ∃ q, w' = W.drewN q := by
  have hiz : (i : Int) < (n : Int) := by omega
  have hu := Try.underlying24
  have hu2 := Try.underlying47
  go_enter Try.func51, Try.ntmps51
  go_wp2
  go_region
  all_goals go_wp2
  all_goals go_ret
  all_goals exact ⟨by first | rfl | simp, 1, rfl⟩
theorem leap_Find.asc_at {l : List S47} (h : leap_Find.Asc l) (a b : Nat) (hab : a ≤ b) (hb : b < l.length) : (l.getD a z47).f0 ≤ (l.getD b z47).f0 := by
  have ha : a < l.length := by omega
  simp only [List.getD_eq_getElem?_getD, List.getElem?_eq_getElem ha, List.getElem?_eq_getElem hb, Option.getD_some]
  by_cases e : a = b
  · subst e; exact Int.le_refl _
  · exact List.pairwise_iff_getElem.mp h a b ha hb (by omega)
theorem leap_Find.count (l : List S47) (p : S47 → Bool) : (List.range l.length).countP (fun i => p (l.getD i z47)) = l.countP p := by
  have : l = (List.range l.length).map (fun i => l.getD i z47) := by
    apply List.ext_getElem
    · simp
    · intro i h1 h2; simp [h1]
  conv => rhs; rw [this, List.countP_map]
  rfl
open Go.Shelf Go.Sort in
set_option maxHeartbeats 4000000 in
theorem leap_Find.calls (A0_0 : Option Addr) (c0_0 : Nat) (l0_0 : List (S47)) (a0_1 : Bool) (a0_2 : Int) (a1 : Int) (r : Int) (w : World) (hr0_0 : Kd.C k47 w A0_0 l0_0.length l0_0) (hc0_0 : l0_0.length ≤ c0_0) (h : leap_Find.f l0_0 a0_1 a0_2 a1 = some r) :
    Calls Try.prog 46 #[.agg #[.slice A0_0 l0_0.length c0_0, .bool a0_1, .int .i64 a0_2], .int .i64 a1] w fun e w' => e = .returned (.int .i64 r) ∧ Below w.heap.size w w' := by
  unfold leap_Find.f at h
  by_cases hs : l0_0.length < 4611686018427387904 ∧ leap_Find.Asc l0_0
  · rw [if_pos hs] at h
    obtain ⟨hsz, hasc⟩ := hs
    obtain ⟨W0, hW0⟩ : ∃ W0, W0 = (w.alloc (.cells #[.slice A0_0 l0_0.length c0_0, .bool a0_1, .int .i64 a0_2] 24)).alloc (.cells #[.int .i64 a1] 3) := ⟨_, rfl⟩
    have hsize : W0.heap.size = w.heap.size + 1 + 1 := by rw [hW0]; simp
    have ca : W0.cell? ⟨w.heap.size, 0, none⟩ = some (.slice A0_0 l0_0.length c0_0) := by
      rw [hW0]; exact cell_alloc_sl _ ((blk_cell (by simpa using heap_alloc_new w _) 0).trans rfl)
    have cx : W0.cell? ⟨w.heap.size + 1, 0, none⟩ = some (.int .i64 a1) := by
      rw [hW0]
      have := cell_new_sl (w.alloc (.cells #[.slice A0_0 l0_0.length c0_0, .bool a0_1, .int .i64 a0_2] 24)) (.int .i64 a1) 3
      rwa [World.size_alloc] at this
    have eg : ∀ args w, (callFunc 51 args).run Try.prog w = .ok (.enter 51 args) w := enters_of Try.func51 (by kernel_rfl) rfl
    have hS := Any.sort_Search Try.laysSearch 51 #[.pointer (some ⟨w.heap.size, 0, none⟩), .pointer (some ⟨w.heap.size + 1, 0, none⟩)] l0_0.length (fun i => decide (a1 ≤ (l0_0.getD i z47).f0)) W0 eg hsz
      (fun m os i hi => by
        obtain ⟨ad, rfl, hx, _, _⟩ := at_T47 hr0_0 (i : Int) (by omega) (by omega)
        have hx' : w.cell? (ad.add (i * 3)) = some (.int .i64 (l0_0.getD i z47).f0) := by simpa [rd_T47] using hx
        have hlt := World.block_lt_of_cell? w _ hx'
        have hx2 : W0.cell? (ad.add (i * 3)) = some (.int .i64 (l0_0.getD i z47).f0) := by
          rw [hW0, World.cell?_alloc_lt _ _ _ (by simp; omega), World.cell?_alloc_lt _ _ _ hlt]; exact hx'
        refine (leap_Find.clo w.heap.size (w.heap.size + 1) l0_0.length c0_0 ad a1 _ i _ hi (cell_grown (by simp [hsize]; omega) ca m os) (cell_grown (by simp [hsize]) cx m os) (cell_grown (by rw [hsize]; omega) hx2 m os)).mono ?_
        rintro _ _ ⟨he, q, hq⟩
        exact ⟨he, q, #[], by rw [hq, grow_empty]⟩)
      (fun a b hab hb hp => by have := leap_Find.asc_at hasc a b hab hb; simp only [decide_eq_true_eq] at hp ⊢; omega)
    rw [leap_Find.count l0_0 (fun y => !decide (a1 ≤ y.f0))] at hS
    change Calls Try.prog 42 _ _ _ at hS
    obtain rfl := Option.some.inj h
    clear h ca cx hasc
    have hsz' := Aside0.mk hsz
    clear hsz
    generalize l0_0.countP (fun y => !decide (a1 ≤ y.f0)) = r at hS ⊢
    have hu := Try.underlying24
    have HS := Aside0.mk hS
    clear hS
    have HW := Aside0.mk hW0
    clear hW0
    have HZ := Aside0.mk hsize
    clear hsize
    go_enter Try.func46, Try.ntmps46
    go_wp2_with (go_at_call 42; rw [← HW.out]; refine HS.out.mono ?_; rintro e w' ⟨rfl, q, os, rfl⟩)
    go_ret
    refine ⟨rfl, ?_⟩
    have hB0 : Below w.heap.size w W0 := by rw [HW.out]; exact ((Below.refl _ w).alloc (Nat.le_refl _) _).alloc (by simp) _
    exact hB0.trans (below_grown_sl w.heap.size W0 q os (by have := HZ.out; omega))
  · rw [if_neg hs] at h; exact absurd h (by simp)

end Go.Proofs.Ytmnkfafnfjpliaa.PAll
