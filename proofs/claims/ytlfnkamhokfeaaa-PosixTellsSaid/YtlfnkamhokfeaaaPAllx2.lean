-- Written for this claim by wip/tools of this repo (after the kit's print; own contracts laid in).
import Derived.Test.YtlfnkamhokfeaaaPAllx0
import Derived.Test.YtlfnkamhokfeaaaPAllx1
namespace Go.Proofs.Ytlfnkamhokfeaaa.PAll
open Go.RowKit Go.Proofs.YtlfnkamhokfeaaaW.PrintWords Go.Proofs.YtlfnkamhokfeaaaW.PrintLast Go.Proofs.YtlfnkamhokfeaaaW.PrintMore
attribute [local go_sem] max2_int min2_int max_two min_two max_three min_three max_four min_four   -- for this text's walks alone
set_option linter.unusedVariables false
set_option linter.unusedSimpArgs false

/-! ### record_leaps: function 45 -/
def record_leaps.j0 : Nat → List (S40) → Int → Bool → Option ((List (S40)))
  | 0, _, _, _ => none
  | k + 1, x0, x3, x7 => if x7 = true then (if 0 ≤ x3 then (if x3 ≤ (x0.length : Int) then (some (x0.take (x3 : Int).toNat)) else (none)) else (none)) else (if x3 > 0 then (if 0 ≤ x3 then (if x3 < (x0.length : Int) then (if 0 ≤ (wrap64 (x3 - 1)) then (if (wrap64 (x3 - 1)) < (x0.length : Int) then (if ((rd_T40 x0 x3).f1) = ((rd_T40 x0 (wrap64 (x3 - 1))).f1) then (if x3 ≤ (x0.length : Int) then (some (x0.take (x3 : Int).toNat)) else (none)) else (some x0)) else (none)) else (none)) else (none)) else (none)) else (some x0))
def record_leaps.f (k : Nat) (l0 : List (S40)) : Option ((List (S40))) := if (wrap64 ((l0.length : Int) - 1)) = 0 then (if 0 < (l0.length : Int) then (record_leaps.j0 k l0 (wrap64 ((l0.length : Int) - 1)) (((rd_T40 l0 0).f1) == 0)) else (none)) else (record_leaps.j0 k l0 (wrap64 ((l0.length : Int) - 1)) false)
theorem record_leaps.mono_l : ∀ k, (∀ y0 y1 y2, LeO (record_leaps.j0 k y0 y1 y2) (record_leaps.j0 (k + 1) y0 y1 y2))
  | 0 => fun _ _ _ r h => by simp [record_leaps.j0] at h
  | k + 1 => by
    have ih0 := record_leaps.mono_l k
    · intro y0 y1 y2
      unfold record_leaps.j0
      repeat' first
      | (with_reducible exact ih0 _ _ _)
      | (with_reducible exact LeO.refl _)
      | (with_reducible exact LeO.none _)
      | (with_reducible refine LeO.ite ?_ ?_)
      | (with_reducible refine LeO.bind ?_ (fun _ => ?_))
      | exact ih0 _ _ _
      | exact LeO.none _
      | refine LeO.ite ?_ ?_
      | refine LeO.bind ?_ (fun _ => ?_)
theorem record_leaps.mono : ∀ a0 k, LeO (record_leaps.f k a0) (record_leaps.f (k + 1) a0) := by
  intro a0 k
  have ih0 := record_leaps.mono_l k
  unfold record_leaps.f
  repeat' first
      | (with_reducible exact ih0 _ _ _)
      | (with_reducible exact LeO.refl _)
      | (with_reducible exact LeO.none _)
      | (with_reducible refine LeO.ite ?_ ?_)
      | (with_reducible refine LeO.bind ?_ (fun _ => ?_))
      | exact ih0 _ _ _
      | exact LeO.none _
      | refine LeO.ite ?_ ?_
      | refine LeO.bind ?_ (fun _ => ?_)
set_option maxHeartbeats 8000000 in
set_option maxRecDepth 100000 in
theorem record_leaps.calls (k : Nat) (P0_ : Nat → Prop) (A0 : Option Addr) (c0 : Nat) (l0 : List (S40)) (r : List (S40)) (w : World) (hs0 : Kd.V k40 40 w w.heap.size (fun k_ => P0_ k_) (.slice A0 l0.length c0) l0) (h : record_leaps.f k l0 = some r) :
    Calls Try.prog 45 #[.slice A0 l0.length c0] w fun e w' => ∃ v0_ : Value, e = .returned (v0_) ∧ Kd.V k40 40 w' w.heap.size (fun k_ => (P0_ k_ ∨ w.heap.size ≤ k_)) v0_ r ∧ Below w.heap.size w w' := by
  have HO0 := Aside0.mk (show Kd.V k40 40 w w.heap.size (fun k_ => (P0_ k_ ∨ w.heap.size ≤ k_)) (.slice A0 l0.length c0) l0 from Kd.V_mono hs0 (fun k_ hk => .inl hk))
  have HB := Aside0.mk (Below.refl w.heap.size w)
  have H : (if (wrap64 ((l0.length : Int) - 1)) = 0 then (if 0 < (l0.length : Int) then (record_leaps.j0 k l0 (wrap64 ((l0.length : Int) - 1)) (((rd_T40 l0 0).f1) == 0)) else (none)) else (record_leaps.j0 k l0 (wrap64 ((l0.length : Int) - 1)) false)) = some r := h
  clear h
  have HC2 := Aside0.mk H
  clear H
  go_enter Try.func45, Try.ntmps45
  go_upto_region 2 with (fail)
  repeat (go_quiet (fail); go_upto_region 2 with (fail))
  go_cut [7] (fun v7 wc => ∃ (kq : Nat) (x7_1 : Bool), v7 = .bool x7_1 ∧ Aside0 (record_leaps.j0 kq l0 (wrap64 ((l0.length : Int) - 1)) x7_1 = some r) ∧ Aside0 (kq ≤ k) ∧ Aside0 (Kd.V k40 40 wc w.heap.size (fun k_ => (P0_ k_ ∨ w.heap.size ≤ k_)) (.slice A0 l0.length c0) l0) ∧ Aside0 (Below w.heap.size w wc))
  case first =>
    have H := HC2.out
    clear HC2
    by_cases c3 : (wrap64 ((l0.length : Int) - 1)) = 0
    · rw [if_pos c3] at H
      have c3b0 : ((wrap64 ((l0.length : Int) - 1)) == 0) = true := beq_iff_eq.mpr c3
      have c3b1 : ((wrap64 ((l0.length : Int) - 1)) != 0) = false := bne_eq_false_iff_eq.mpr c3
      clear c3
      (first | rw [c3b0] | (simp only [i64_w, i32_w]; rw [c3b0]) | skip)
      by_cases c4 : 0 < (l0.length : Int)
      · rw [if_pos c4] at H
        have c4b0 : decide (0 < (l0.length : Int)) = true := decide_eq_true c4
        have c4b1 : decide (0 < l0.length) = true := decide_eq_true (by omega)
        clear c4
        have H' := Aside0.mk H
        clear H
        have p111 : 0 ≤ (0 : Int) := (by omega)
        have q111 : 0 < (l0.length : Int) := of_decide_eq_true (by first | (with_reducible assumption) | assumption)
        obtain ⟨ad111, e111, hx111_0, hx111_1⟩ := at_T40 (Kd.V_reads' HO0.out).2.2 0 p111 q111
        cases e111
        have qi111 : (0 < l0.length) = True := eq_true (by omega)
        (try rw [show ((0 : Int)).toNat = 0 from rfl] at hx111_0)
        (try rw [show 0 * 2 = 0 from rfl] at hx111_0)
        (try rw [Addr.add_zero'] at hx111_0)
        (try rw [show ((0 : Int)).toNat = 0 from rfl] at hx111_1)
        (try rw [show 0 * 2 = 0 from rfl] at hx111_1)
        (try rw [Addr.add_zero'] at hx111_1)
        replace p111 := eq_true p111
        replace q111 := eq_true q111
        go_wp2
        repeat (go_quiet (fail); try go_wp2)
        go_meet
        case rel => exact ⟨_, ((((rd_T40 l0 0).f1) == 0)), (by first | rfl | (simp; done) | (simp [*]; done)), H', ⟨by first | omega | exact Nat.le_refl _⟩, ⟨by (with_reducible repeat (first | apply Kd.V_alloc | apply Kd.V_drewN | apply Kd.V_drew)); exact HO0.out⟩, ⟨by repeat (first | (with_reducible first | exact HB.out | apply below_alloc | apply pw_below_drewN | apply below_drew1) | exact HB.out)⟩⟩
      · rw [if_neg c4] at H
        exact absurd H (by simp)
    · rw [if_neg c3] at H
      have c3b0 : ((wrap64 ((l0.length : Int) - 1)) == 0) = false := beq_eq_false_iff_ne.mpr c3
      have c3b1 : ((wrap64 ((l0.length : Int) - 1)) != 0) = true := bne_iff_ne.mpr c3
      (first | rw [c3b0] | (simp only [i64_w, i32_w]; rw [c3b0]) | skip)
      have H' := Aside0.mk H
      clear H
      go_wp2
      repeat (go_quiet (fail); try go_wp2)
      go_meet
      case rel => exact ⟨_, (false), (by first | rfl | (simp; done) | (simp [*]; done)), H', ⟨by first | omega | exact Nat.le_refl _⟩, ⟨by (with_reducible repeat (first | apply Kd.V_alloc | apply Kd.V_drewN | apply Kd.V_drew)); exact HO0.out⟩, ⟨by repeat (first | (with_reducible first | exact HB.out | apply below_alloc | apply pw_below_drewN | apply below_drew1) | exact HB.out)⟩⟩
  case rest =>
    clear HC2
    try clear p1
    try clear q1
    try clear hx1
    try clear qi1
    try clear p2
    try clear c3
    try clear c3b0
    try clear c3b1
    try clear c4
    try clear c4b0
    try clear c4b1
    try clear hx111_0
    try clear hx111_1
    try clear p111
    try clear q111
    obtain ⟨kq, x7_1, rfl, HA, HJ1, HO_0, HB⟩ := hcut
    cases kq with
    | zero => exact absurd HA.out (by simp [record_leaps.j0])
    | succ kj1 =>
      have H := HA.out
      clear HA
      simp only [record_leaps.j0] at H
      by_cases c5 : x7_1 = true
      · subst c5
        have H1 : (if 0 ≤ (wrap64 ((l0.length : Int) - 1)) then (if (wrap64 ((l0.length : Int) - 1)) ≤ (l0.length : Int) then (some (l0.take ((wrap64 ((l0.length : Int) - 1)) : Int).toNat)) else (none)) else (none)) = some r := by rw [if_pos rfl] at H; exact H
        clear H
        have H := H1
        clear H1
        obtain ⟨ji6, hji6⟩ : ∃ j_ : Int, (wrap64 ((l0.length : Int) - 1)) = j_ := ⟨_, rfl⟩
        replace H : (if 0 ≤ (ji6) then (if (ji6) ≤ (l0.length : Int) then (some (l0.take ((ji6) : Int).toNat)) else (none)) else (none)) = some r := by first | (rw [hji6] at H; exact H) | (simp only [hji6] at H ⊢; exact H)
        have hji6w : (IntKind.i64.wrap ((l0.length : Int) - 1)) = ji6 := (i64_w _).trans hji6
        by_cases c7 : 0 ≤ (ji6)
        · rw [if_pos c7] at H
          have c7b0 := eq_true c7
          have c7b1 : decide (0 ≤ (ji6)) = true := decide_eq_true c7
          clear c7
          by_cases c8 : (ji6) ≤ (l0.length : Int)
          · rw [if_pos c8] at H
            have c8b0 := eq_true c8
            have c8b1 : decide ((ji6) ≤ (l0.length : Int)) = true := decide_eq_true c8
            clear c8
            obtain ⟨y112, hy112⟩ : ∃ y_ : List (S40), y_ = (l0.take ((ji6) : Int).toNat) := ⟨_, rfl⟩
            replace H : (some y112) = some r := by first | (rw [hy112]; with_reducible exact H) | (have H2_ := (Option.bind_some _ _).symm.trans H; rw [hy112]; with_reducible exact H2_) | (have H2_ := (Option.bind_some _ _).symm.trans H; with_reducible exact H2_) | with_reducible exact H | (rw [hy112]; exact H) | exact H
            have Ny112 := Aside0.mk hy112
            clear hy112
            obtain rfl := Option.some.inj H
            have q9 : ((ji6) : Int) ≤ ((l0.length : Int) : Int) := of_decide_eq_true (by first | (with_reducible assumption) | assumption)
            obtain ⟨i09, hi09, _, hsz9, _⟩ := info_parts info40
            have hroom9 : l0.length ≤ c0 := (Kd.V_reads' HO_0.out).2.1
            have hC9 : Kd.F k40 _ _ A0 l0.length l0 := (Kd.V_at (base := w.heap.size) HO_0.out).2.2
            have hcut9 := cut_to (P := Try.prog) 22 40 .i64 Try.underlying22 hi09 A0 l0.length c0 (ji6) (of_decide_eq_true (by first | (with_reducible assumption) | assumption)) q9 hroom9
            have hr9 := Kd.F_take (m := ((ji6) : Int).toNat) hC9 (by omega)
            have hy9 : y112.length = ((ji6) : Int).toNat := (by rw [Ny112.out, List.length_take]; omega)
            rw [← Ny112.out] at hr9
            rw [← hy9] at hcut9
            have HO116 := Aside0.mk (show Kd.V k40 40 _ w.heap.size _ (.slice A0 y112.length c0) y112 from Kd.V_mk (by omega) hr9)
            have HC116 := Aside0.mk (show y112.length ≤ c0 from by omega)
            clear hr9 hC9 hroom9 hi09 hsz9
            have KY9 := Aside0.mk hy9
            clear hy9
            replace q9 := eq_true q9
            go_wp2
            repeat (go_quiet (fail); try go_wp2)
            go_ret
            exact ⟨_, by first | rfl | (simp [errW_none, errW_some] <;> rfl) | (simp only [← hji6]; first | rfl | (simp [errW_none, errW_some] <;> rfl)) | (simp [*, errW_none, errW_some] <;> rfl), by (with_reducible repeat (first | apply Kd.V_alloc | apply Kd.V_drewN | apply Kd.V_drew)); exact HO116.out, by repeat (first | (with_reducible first | exact HB.out | apply below_alloc | apply pw_below_drewN | apply below_drew1) | exact HB.out)⟩
          · rw [if_neg c8] at H
            exact absurd H (by simp)
        · rw [if_neg c7] at H
          exact absurd H (by simp)
      · replace c5 := Bool.eq_false_iff.mpr c5
        subst c5
        have H1 : (if (wrap64 ((l0.length : Int) - 1)) > 0 then (if 0 ≤ (wrap64 ((l0.length : Int) - 1)) then (if (wrap64 ((l0.length : Int) - 1)) < (l0.length : Int) then (if 0 ≤ (wrap64 ((wrap64 ((l0.length : Int) - 1)) - 1)) then (if (wrap64 ((wrap64 ((l0.length : Int) - 1)) - 1)) < (l0.length : Int) then (if ((rd_T40 l0 (wrap64 ((l0.length : Int) - 1))).f1) = ((rd_T40 l0 (wrap64 ((wrap64 ((l0.length : Int) - 1)) - 1))).f1) then (if (wrap64 ((l0.length : Int) - 1)) ≤ (l0.length : Int) then (some (l0.take ((wrap64 ((l0.length : Int) - 1)) : Int).toNat)) else (none)) else (some l0)) else (none)) else (none)) else (none)) else (none)) else (some l0)) = some r := by rw [if_neg (show ¬ (false = true) by decide)] at H; exact H
        clear H
        have H := H1
        clear H1
        by_cases c10 : (wrap64 ((l0.length : Int) - 1)) > 0
        · rw [if_pos c10] at H
          have c10b0 : decide (0 < (wrap64 ((l0.length : Int) - 1))) = true := decide_eq_true c10
          clear c10
          obtain ⟨ji11, hji11⟩ : ∃ j_ : Int, (wrap64 ((l0.length : Int) - 1)) = j_ := ⟨_, rfl⟩
          replace H : (if 0 ≤ (ji11) then (if (ji11) < (l0.length : Int) then (if 0 ≤ (wrap64 ((ji11) - 1)) then (if (wrap64 ((ji11) - 1)) < (l0.length : Int) then (if ((rd_T40 l0 (ji11)).f1) = ((rd_T40 l0 (wrap64 ((ji11) - 1))).f1) then (if (ji11) ≤ (l0.length : Int) then (some (l0.take ((ji11) : Int).toNat)) else (none)) else (some l0)) else (none)) else (none)) else (none)) else (none)) = some r := by first | (rw [hji11] at H; exact H) | (simp only [hji11] at H ⊢; exact H)
          (try rw [hji11] at c10b0)
          have hji11w : (IntKind.i64.wrap ((l0.length : Int) - 1)) = ji11 := (i64_w _).trans hji11
          by_cases c12 : 0 ≤ (ji11)
          · rw [if_pos c12] at H
            have c12b0 : decide (0 ≤ (ji11)) = true := decide_eq_true c12
            clear c12
            by_cases c13 : (ji11) < (l0.length : Int)
            · rw [if_pos c13] at H
              have c13b0 : decide ((ji11) < (l0.length : Int)) = true := decide_eq_true c13
              clear c13
              obtain ⟨ji14, hji14⟩ : ∃ j_ : Int, (wrap64 ((ji11) - 1)) = j_ := ⟨_, rfl⟩
              replace H : (if 0 ≤ (ji14) then (if (ji14) < (l0.length : Int) then (if ((rd_T40 l0 (ji11)).f1) = ((rd_T40 l0 (ji14)).f1) then (if (ji11) ≤ (l0.length : Int) then (some (l0.take ((ji11) : Int).toNat)) else (none)) else (some l0)) else (none)) else (none)) = some r := by first | (rw [hji14] at H; exact H) | (simp only [hji14] at H ⊢; exact H)
              have hji14w : (IntKind.i64.wrap ((ji11) - 1)) = ji14 := (i64_w _).trans hji14
              by_cases c15 : 0 ≤ (ji14)
              · rw [if_pos c15] at H
                have c15b0 : decide (0 ≤ (ji14)) = true := decide_eq_true c15
                clear c15
                by_cases c16 : (ji14) < (l0.length : Int)
                · rw [if_pos c16] at H
                  have c16b0 : decide ((ji14) < (l0.length : Int)) = true := decide_eq_true c16
                  clear c16
                  by_cases c17 : ((rd_T40 l0 (ji11)).f1) = ((rd_T40 l0 (ji14)).f1)
                  · rw [if_pos c17] at H
                    have c17b0 : (((rd_T40 l0 (ji11)).f1) == ((rd_T40 l0 (ji14)).f1)) = true := beq_iff_eq.mpr c17
                    have c17b1 : (((rd_T40 l0 (ji11)).f1) != ((rd_T40 l0 (ji14)).f1)) = false := bne_eq_false_iff_eq.mpr c17
                    clear c17
                    have c18b0 := eq_true (of_decide_eq_true (by first | (with_reducible assumption) | assumption) : 0 ≤ (ji11))
                    by_cases c19 : (ji11) ≤ (l0.length : Int)
                    · rw [if_pos c19] at H
                      have c19b0 := eq_true c19
                      have c19b1 : decide ((ji11) ≤ (l0.length : Int)) = true := decide_eq_true c19
                      clear c19
                      obtain ⟨y119, hy119⟩ : ∃ y_ : List (S40), y_ = (l0.take ((ji11) : Int).toNat) := ⟨_, rfl⟩
                      replace H : (some y119) = some r := by first | (rw [hy119]; with_reducible exact H) | (have H2_ := (Option.bind_some _ _).symm.trans H; rw [hy119]; with_reducible exact H2_) | (have H2_ := (Option.bind_some _ _).symm.trans H; with_reducible exact H2_) | with_reducible exact H | (rw [hy119]; exact H) | exact H
                      have Ny119 := Aside0.mk hy119
                      clear hy119
                      obtain rfl := Option.some.inj H
                      have p117 : 0 ≤ ((ji11) : Int) := of_decide_eq_true (by first | (with_reducible assumption) | assumption)
                      have q117 : (ji11) < (l0.length : Int) := of_decide_eq_true (by first | (with_reducible assumption) | assumption)
                      obtain ⟨ad117, e117, hx117_0, hx117_1⟩ := at_T40 (Kd.V_reads' HO_0.out).2.2 (ji11) p117 q117
                      cases e117
                      replace p117 := eq_true p117
                      replace q117 := eq_true q117
                      have p118 : 0 ≤ ((ji14) : Int) := of_decide_eq_true (by first | (with_reducible assumption) | assumption)
                      have q118 : (ji14) < (l0.length : Int) := of_decide_eq_true (by first | (with_reducible assumption) | assumption)
                      obtain ⟨ad118, e118, hx118_0, hx118_1⟩ := at_T40 (Kd.V_reads' HO_0.out).2.2 (ji14) p118 q118
                      obtain rfl : ad117 = ad118 := (by injection e118)
                      replace p118 := eq_true p118
                      replace q118 := eq_true q118
                      have q20 : ((ji11) : Int) ≤ ((l0.length : Int) : Int) := of_decide_eq_true (by first | (with_reducible assumption) | assumption)
                      obtain ⟨i020, hi020, _, hsz20, _⟩ := info_parts info40
                      have hroom20 : l0.length ≤ c0 := (Kd.V_reads' HO_0.out).2.1
                      have hC20 : Kd.F k40 _ _ (some ad117) l0.length l0 := (Kd.V_at (base := w.heap.size) HO_0.out).2.2
                      have hcut20 := cut_to (P := Try.prog) 22 40 .i64 Try.underlying22 hi020 (some ad117) l0.length c0 (ji11) (of_decide_eq_true (by first | (with_reducible assumption) | assumption)) q20 hroom20
                      have hr20 := Kd.F_take (m := ((ji11) : Int).toNat) hC20 (by omega)
                      have hy20 : y119.length = ((ji11) : Int).toNat := (by rw [Ny119.out, List.length_take]; omega)
                      rw [← Ny119.out] at hr20
                      rw [← hy20] at hcut20
                      have HO123 := Aside0.mk (show Kd.V k40 40 _ w.heap.size _ (.slice (some ad117) y119.length c0) y119 from Kd.V_mk (by omega) hr20)
                      have HC123 := Aside0.mk (show y119.length ≤ c0 from by omega)
                      clear hr20 hC20 hroom20 hi020 hsz20
                      have KY20 := Aside0.mk hy20
                      clear hy20
                      replace q20 := eq_true q20
                      go_wp2
                      repeat (go_quiet (fail); try go_wp2)
                      go_ret
                      exact ⟨_, by first | rfl | (simp [errW_none, errW_some] <;> rfl) | (simp only [← hji11, ← hji14]; first | rfl | (simp [errW_none, errW_some] <;> rfl)) | (simp [*, errW_none, errW_some] <;> rfl), by (with_reducible repeat (first | apply Kd.V_alloc | apply Kd.V_drewN | apply Kd.V_drew)); exact HO123.out, by repeat (first | (with_reducible first | exact HB.out | apply below_alloc | apply pw_below_drewN | apply below_drew1) | exact HB.out)⟩
                    · rw [if_neg c19] at H
                      exact absurd H (by simp)
                  · rw [if_neg c17] at H
                    have c17b0 : (((rd_T40 l0 (ji11)).f1) == ((rd_T40 l0 (ji14)).f1)) = false := beq_eq_false_iff_ne.mpr c17
                    have c17b1 : (((rd_T40 l0 (ji11)).f1) != ((rd_T40 l0 (ji14)).f1)) = true := bne_iff_ne.mpr c17
                    obtain rfl := Option.some.inj H
                    have p117 : 0 ≤ ((ji11) : Int) := of_decide_eq_true (by first | (with_reducible assumption) | assumption)
                    have q117 : (ji11) < (l0.length : Int) := of_decide_eq_true (by first | (with_reducible assumption) | assumption)
                    obtain ⟨ad117, e117, hx117_0, hx117_1⟩ := at_T40 (Kd.V_reads' HO_0.out).2.2 (ji11) p117 q117
                    cases e117
                    replace p117 := eq_true p117
                    replace q117 := eq_true q117
                    have p118 : 0 ≤ ((ji14) : Int) := of_decide_eq_true (by first | (with_reducible assumption) | assumption)
                    have q118 : (ji14) < (l0.length : Int) := of_decide_eq_true (by first | (with_reducible assumption) | assumption)
                    obtain ⟨ad118, e118, hx118_0, hx118_1⟩ := at_T40 (Kd.V_reads' HO_0.out).2.2 (ji14) p118 q118
                    obtain rfl : ad117 = ad118 := (by injection e118)
                    replace p118 := eq_true p118
                    replace q118 := eq_true q118
                    go_wp2
                    repeat (go_quiet (fail); try go_wp2)
                    go_ret
                    exact ⟨_, by first | rfl | (simp [errW_none, errW_some] <;> rfl) | (simp only [← hji11, ← hji14]; first | rfl | (simp [errW_none, errW_some] <;> rfl)) | (simp [*, errW_none, errW_some] <;> rfl), by (with_reducible repeat (first | apply Kd.V_alloc | apply Kd.V_drewN | apply Kd.V_drew)); exact HO_0.out, by repeat (first | (with_reducible first | exact HB.out | apply below_alloc | apply pw_below_drewN | apply below_drew1) | exact HB.out)⟩
                · rw [if_neg c16] at H
                  exact absurd H (by simp)
              · rw [if_neg c15] at H
                exact absurd H (by simp)
            · rw [if_neg c13] at H
              exact absurd H (by simp)
          · rw [if_neg c12] at H
            exact absurd H (by simp)
        · rw [if_neg c10] at H
          have c10b0 : decide (0 < (wrap64 ((l0.length : Int) - 1))) = false := decide_eq_false c10
          clear c10
          obtain rfl := Option.some.inj H
          go_wp2
          repeat (go_quiet (fail); try go_wp2)
          go_ret
          exact ⟨_, by first | rfl | (simp [errW_none, errW_some] <;> rfl) | (simp [*, errW_none, errW_some] <;> rfl), by (with_reducible repeat (first | apply Kd.V_alloc | apply Kd.V_drewN | apply Kd.V_drew)); exact HO_0.out, by repeat (first | (with_reducible first | exact HB.out | apply below_alloc | apply pw_below_drewN | apply below_drew1) | exact HB.out)⟩

/-! ### day_Date: function 67 -/
def day_Date.j0 : Nat → Int → Bool → Option (Int × Int × Int × Bool)
  | 0, _, _ => none
  | k + 1, x0, x15 => if x15 = true then (some (0, 0, 0, false)) else ((num_Div.f (wrap64 (x0 + 719468)) 146097).bind fun bt124 => (if (wrap64 ((wrap64 (Int.tdiv (wrap64 ((wrap64 (5 * (wrap64 (bt124.2.1 - (wrap64 ((wrap64 ((wrap64 (365 * (wrap64 (Int.tdiv (wrap64 ((wrap64 ((wrap64 (bt124.2.1 - (wrap64 (Int.tdiv bt124.2.1 1460)))) + (wrap64 (Int.tdiv bt124.2.1 36524)))) - (wrap64 (Int.tdiv bt124.2.1 146096)))) 365)))) + (wrap64 (Int.tdiv (wrap64 (Int.tdiv (wrap64 ((wrap64 ((wrap64 (bt124.2.1 - (wrap64 (Int.tdiv bt124.2.1 1460)))) + (wrap64 (Int.tdiv bt124.2.1 36524)))) - (wrap64 (Int.tdiv bt124.2.1 146096)))) 365)) 4)))) - (wrap64 (Int.tdiv (wrap64 (Int.tdiv (wrap64 ((wrap64 ((wrap64 (bt124.2.1 - (wrap64 (Int.tdiv bt124.2.1 1460)))) + (wrap64 (Int.tdiv bt124.2.1 36524)))) - (wrap64 (Int.tdiv bt124.2.1 146096)))) 365)) 100)))))))) + 2)) 153)) + 3)) > 12 then (some (wrap64 ((wrap64 (400 * bt124.1)) + (wrap64 ((wrap64 (Int.tdiv (wrap64 ((wrap64 ((wrap64 (bt124.2.1 - (wrap64 (Int.tdiv bt124.2.1 1460)))) + (wrap64 (Int.tdiv bt124.2.1 36524)))) - (wrap64 (Int.tdiv bt124.2.1 146096)))) 365)) + 1))), wrap64 ((wrap64 ((wrap64 (Int.tdiv (wrap64 ((wrap64 (5 * (wrap64 (bt124.2.1 - (wrap64 ((wrap64 ((wrap64 (365 * (wrap64 (Int.tdiv (wrap64 ((wrap64 ((wrap64 (bt124.2.1 - (wrap64 (Int.tdiv bt124.2.1 1460)))) + (wrap64 (Int.tdiv bt124.2.1 36524)))) - (wrap64 (Int.tdiv bt124.2.1 146096)))) 365)))) + (wrap64 (Int.tdiv (wrap64 (Int.tdiv (wrap64 ((wrap64 ((wrap64 (bt124.2.1 - (wrap64 (Int.tdiv bt124.2.1 1460)))) + (wrap64 (Int.tdiv bt124.2.1 36524)))) - (wrap64 (Int.tdiv bt124.2.1 146096)))) 365)) 4)))) - (wrap64 (Int.tdiv (wrap64 (Int.tdiv (wrap64 ((wrap64 ((wrap64 (bt124.2.1 - (wrap64 (Int.tdiv bt124.2.1 1460)))) + (wrap64 (Int.tdiv bt124.2.1 36524)))) - (wrap64 (Int.tdiv bt124.2.1 146096)))) 365)) 100)))))))) + 2)) 153)) + 3)) - 12), wrap64 ((wrap64 ((wrap64 (bt124.2.1 - (wrap64 ((wrap64 ((wrap64 (365 * (wrap64 (Int.tdiv (wrap64 ((wrap64 ((wrap64 (bt124.2.1 - (wrap64 (Int.tdiv bt124.2.1 1460)))) + (wrap64 (Int.tdiv bt124.2.1 36524)))) - (wrap64 (Int.tdiv bt124.2.1 146096)))) 365)))) + (wrap64 (Int.tdiv (wrap64 (Int.tdiv (wrap64 ((wrap64 ((wrap64 (bt124.2.1 - (wrap64 (Int.tdiv bt124.2.1 1460)))) + (wrap64 (Int.tdiv bt124.2.1 36524)))) - (wrap64 (Int.tdiv bt124.2.1 146096)))) 365)) 4)))) - (wrap64 (Int.tdiv (wrap64 (Int.tdiv (wrap64 ((wrap64 ((wrap64 (bt124.2.1 - (wrap64 (Int.tdiv bt124.2.1 1460)))) + (wrap64 (Int.tdiv bt124.2.1 36524)))) - (wrap64 (Int.tdiv bt124.2.1 146096)))) 365)) 100)))))) - (wrap64 (Int.tdiv (wrap64 ((wrap64 (153 * (wrap64 (Int.tdiv (wrap64 ((wrap64 (5 * (wrap64 (bt124.2.1 - (wrap64 ((wrap64 ((wrap64 (365 * (wrap64 (Int.tdiv (wrap64 ((wrap64 ((wrap64 (bt124.2.1 - (wrap64 (Int.tdiv bt124.2.1 1460)))) + (wrap64 (Int.tdiv bt124.2.1 36524)))) - (wrap64 (Int.tdiv bt124.2.1 146096)))) 365)))) + (wrap64 (Int.tdiv (wrap64 (Int.tdiv (wrap64 ((wrap64 ((wrap64 (bt124.2.1 - (wrap64 (Int.tdiv bt124.2.1 1460)))) + (wrap64 (Int.tdiv bt124.2.1 36524)))) - (wrap64 (Int.tdiv bt124.2.1 146096)))) 365)) 4)))) - (wrap64 (Int.tdiv (wrap64 (Int.tdiv (wrap64 ((wrap64 ((wrap64 (bt124.2.1 - (wrap64 (Int.tdiv bt124.2.1 1460)))) + (wrap64 (Int.tdiv bt124.2.1 36524)))) - (wrap64 (Int.tdiv bt124.2.1 146096)))) 365)) 100)))))))) + 2)) 153)))) + 2)) 5)))) + 1), true)) else (some (wrap64 ((wrap64 (400 * bt124.1)) + (wrap64 (Int.tdiv (wrap64 ((wrap64 ((wrap64 (bt124.2.1 - (wrap64 (Int.tdiv bt124.2.1 1460)))) + (wrap64 (Int.tdiv bt124.2.1 36524)))) - (wrap64 (Int.tdiv bt124.2.1 146096)))) 365))), wrap64 ((wrap64 (Int.tdiv (wrap64 ((wrap64 (5 * (wrap64 (bt124.2.1 - (wrap64 ((wrap64 ((wrap64 (365 * (wrap64 (Int.tdiv (wrap64 ((wrap64 ((wrap64 (bt124.2.1 - (wrap64 (Int.tdiv bt124.2.1 1460)))) + (wrap64 (Int.tdiv bt124.2.1 36524)))) - (wrap64 (Int.tdiv bt124.2.1 146096)))) 365)))) + (wrap64 (Int.tdiv (wrap64 (Int.tdiv (wrap64 ((wrap64 ((wrap64 (bt124.2.1 - (wrap64 (Int.tdiv bt124.2.1 1460)))) + (wrap64 (Int.tdiv bt124.2.1 36524)))) - (wrap64 (Int.tdiv bt124.2.1 146096)))) 365)) 4)))) - (wrap64 (Int.tdiv (wrap64 (Int.tdiv (wrap64 ((wrap64 ((wrap64 (bt124.2.1 - (wrap64 (Int.tdiv bt124.2.1 1460)))) + (wrap64 (Int.tdiv bt124.2.1 36524)))) - (wrap64 (Int.tdiv bt124.2.1 146096)))) 365)) 100)))))))) + 2)) 153)) + 3), wrap64 ((wrap64 ((wrap64 (bt124.2.1 - (wrap64 ((wrap64 ((wrap64 (365 * (wrap64 (Int.tdiv (wrap64 ((wrap64 ((wrap64 (bt124.2.1 - (wrap64 (Int.tdiv bt124.2.1 1460)))) + (wrap64 (Int.tdiv bt124.2.1 36524)))) - (wrap64 (Int.tdiv bt124.2.1 146096)))) 365)))) + (wrap64 (Int.tdiv (wrap64 (Int.tdiv (wrap64 ((wrap64 ((wrap64 (bt124.2.1 - (wrap64 (Int.tdiv bt124.2.1 1460)))) + (wrap64 (Int.tdiv bt124.2.1 36524)))) - (wrap64 (Int.tdiv bt124.2.1 146096)))) 365)) 4)))) - (wrap64 (Int.tdiv (wrap64 (Int.tdiv (wrap64 ((wrap64 ((wrap64 (bt124.2.1 - (wrap64 (Int.tdiv bt124.2.1 1460)))) + (wrap64 (Int.tdiv bt124.2.1 36524)))) - (wrap64 (Int.tdiv bt124.2.1 146096)))) 365)) 100)))))) - (wrap64 (Int.tdiv (wrap64 ((wrap64 (153 * (wrap64 (Int.tdiv (wrap64 ((wrap64 (5 * (wrap64 (bt124.2.1 - (wrap64 ((wrap64 ((wrap64 (365 * (wrap64 (Int.tdiv (wrap64 ((wrap64 ((wrap64 (bt124.2.1 - (wrap64 (Int.tdiv bt124.2.1 1460)))) + (wrap64 (Int.tdiv bt124.2.1 36524)))) - (wrap64 (Int.tdiv bt124.2.1 146096)))) 365)))) + (wrap64 (Int.tdiv (wrap64 (Int.tdiv (wrap64 ((wrap64 ((wrap64 (bt124.2.1 - (wrap64 (Int.tdiv bt124.2.1 1460)))) + (wrap64 (Int.tdiv bt124.2.1 36524)))) - (wrap64 (Int.tdiv bt124.2.1 146096)))) 365)) 4)))) - (wrap64 (Int.tdiv (wrap64 (Int.tdiv (wrap64 ((wrap64 ((wrap64 (bt124.2.1 - (wrap64 (Int.tdiv bt124.2.1 1460)))) + (wrap64 (Int.tdiv bt124.2.1 36524)))) - (wrap64 (Int.tdiv bt124.2.1 146096)))) 365)) 100)))))))) + 2)) 153)))) + 2)) 5)))) + 1), true))))
def day_Date.f (k : Nat) (a0 : Int) : Option (Int × Int × Int × Bool) := if a0 < (-719162) then (day_Date.j0 k a0 true) else (day_Date.j0 k a0 (decide (a0 > 2932896)))
theorem day_Date.mono_l : ∀ k, (∀ y0 y1, LeO (day_Date.j0 k y0 y1) (day_Date.j0 (k + 1) y0 y1))
  | 0 => fun _ _ r h => by simp [day_Date.j0] at h
  | k + 1 => by
    have ih0 := day_Date.mono_l k
    · intro y0 y1
      unfold day_Date.j0
      repeat' first
      | (with_reducible exact ih0 _ _)
      | (with_reducible exact LeO.refl _)
      | (with_reducible exact LeO.none _)
      | (with_reducible refine LeO.ite ?_ ?_)
      | (with_reducible refine LeO.bind ?_ (fun _ => ?_))
      | exact ih0 _ _
      | exact LeO.none _
      | refine LeO.ite ?_ ?_
      | refine LeO.bind ?_ (fun _ => ?_)
theorem day_Date.mono : ∀ a0 k, LeO (day_Date.f k a0) (day_Date.f (k + 1) a0) := by
  intro a0 k
  have ih0 := day_Date.mono_l k
  unfold day_Date.f
  repeat' first
      | (with_reducible exact ih0 _ _)
      | (with_reducible exact LeO.refl _)
      | (with_reducible exact LeO.none _)
      | (with_reducible refine LeO.ite ?_ ?_)
      | (with_reducible refine LeO.bind ?_ (fun _ => ?_))
      | exact ih0 _ _
      | exact LeO.none _
      | refine LeO.ite ?_ ?_
      | refine LeO.bind ?_ (fun _ => ?_)
set_option maxHeartbeats 8000000 in
set_option maxRecDepth 100000 in
theorem day_Date.calls (k : Nat) (a0 : Int) (r1 : Int) (r2 : Int) (r3 : Int) (r4 : Bool) (w : World) (h : day_Date.f k a0 = some (r1, r2, r3, r4)) :
    Calls Try.prog 67 #[.int .i64 a0] w fun e w' => e = .returned (.tuple #[.int .i64 r1, .int .i64 r2, .int .i64 r3, .bool r4]) ∧ Drawn0 w w' := by
  have H : (if a0 < (-719162) then (day_Date.j0 k a0 true) else (day_Date.j0 k a0 (decide (a0 > 2932896)))) = some (r1, r2, r3, r4) := h
  clear h
  have HC2 := Aside0.mk H
  clear H
  go_enter Try.func67, Try.ntmps67
  go_upto_region 1 with (fail)
  go_cut [15] (fun v15 wc => ∃ (kq : Nat) (x15_1 : Bool), v15 = .bool x15_1 ∧ Aside0 (day_Date.j0 kq a0 x15_1 = some (r1, r2, r3, r4)) ∧ Aside0 (kq ≤ k) ∧ Drawn0 w wc)
  case first =>
    have H := HC2.out
    clear HC2
    by_cases c3 : a0 < (-719162)
    · rw [if_pos c3] at H
      have c3b0 : decide (a0 < (-719162)) = true := decide_eq_true c3
      clear c3
      (first | rw [c3b0] | (simp only [i64_w, i32_w]; rw [c3b0]) | skip)
      have H' := Aside0.mk H
      clear H
      go_wp2
      go_meet
      case rel => exact ⟨_, (true), (by first | rfl | (simp; done) | (simp [*]; done)), H', ⟨by first | omega | exact Nat.le_refl _⟩, by repeat (first | exact Drawn0.refl _ | apply Drawn0.step)⟩
    · rw [if_neg c3] at H
      have c3b0 : decide (a0 < (-719162)) = false := decide_eq_false c3
      clear c3
      (first | rw [c3b0] | (simp only [i64_w, i32_w]; rw [c3b0]) | skip)
      have H' := Aside0.mk H
      clear H
      go_wp2
      go_meet
      case rel => exact ⟨_, (decide (a0 > 2932896)), (by first | rfl | (simp; done) | (simp [*]; done)), H', ⟨by first | omega | exact Nat.le_refl _⟩, by repeat (first | exact Drawn0.refl _ | apply Drawn0.step)⟩
  case rest =>
    clear HC2
    try clear p2
    try clear c3
    try clear c3b0
    obtain ⟨kq, x15_1, rfl, HA, HJ1, ⟨mc1, rfl⟩⟩ := hcut
    cases kq with
    | zero => exact absurd HA.out (by simp [day_Date.j0])
    | succ kj1 =>
      have H := HA.out
      clear HA
      simp only [day_Date.j0] at H
      by_cases c4 : x15_1 = true
      · subst c4
        have H1 : (some (0, 0, 0, false)) = some (r1, r2, r3, r4) := by rw [if_pos rfl] at H; exact H
        clear H
        have H := H1
        clear H1
        simp only [Option.some.injEq, Prod.mk.injEq] at H
        obtain ⟨rfl, rfl, rfl, rfl⟩ := H
        go_wp2
        refine bodyPost_ret (results_list (rs := [.tmp 2, .tmp 3, .tmp 4, .tmp 5]) rfl (by simp) (.tmp (.tmp (.tmp (.tmp .nil))))) rfl ?_
        exact ⟨by first | rfl | (simp; done) | (simp [*]; done), by repeat (first | exact Drawn0.refl _ | apply Drawn0.step)⟩
      · replace c4 := Bool.eq_false_iff.mpr c4
        subst c4
        have H1 : ((num_Div.f (wrap64 (a0 + 719468)) 146097).bind fun bt124 => (if (wrap64 ((wrap64 (Int.tdiv (wrap64 ((wrap64 (5 * (wrap64 (bt124.2.1 - (wrap64 ((wrap64 ((wrap64 (365 * (wrap64 (Int.tdiv (wrap64 ((wrap64 ((wrap64 (bt124.2.1 - (wrap64 (Int.tdiv bt124.2.1 1460)))) + (wrap64 (Int.tdiv bt124.2.1 36524)))) - (wrap64 (Int.tdiv bt124.2.1 146096)))) 365)))) + (wrap64 (Int.tdiv (wrap64 (Int.tdiv (wrap64 ((wrap64 ((wrap64 (bt124.2.1 - (wrap64 (Int.tdiv bt124.2.1 1460)))) + (wrap64 (Int.tdiv bt124.2.1 36524)))) - (wrap64 (Int.tdiv bt124.2.1 146096)))) 365)) 4)))) - (wrap64 (Int.tdiv (wrap64 (Int.tdiv (wrap64 ((wrap64 ((wrap64 (bt124.2.1 - (wrap64 (Int.tdiv bt124.2.1 1460)))) + (wrap64 (Int.tdiv bt124.2.1 36524)))) - (wrap64 (Int.tdiv bt124.2.1 146096)))) 365)) 100)))))))) + 2)) 153)) + 3)) > 12 then (some (wrap64 ((wrap64 (400 * bt124.1)) + (wrap64 ((wrap64 (Int.tdiv (wrap64 ((wrap64 ((wrap64 (bt124.2.1 - (wrap64 (Int.tdiv bt124.2.1 1460)))) + (wrap64 (Int.tdiv bt124.2.1 36524)))) - (wrap64 (Int.tdiv bt124.2.1 146096)))) 365)) + 1))), wrap64 ((wrap64 ((wrap64 (Int.tdiv (wrap64 ((wrap64 (5 * (wrap64 (bt124.2.1 - (wrap64 ((wrap64 ((wrap64 (365 * (wrap64 (Int.tdiv (wrap64 ((wrap64 ((wrap64 (bt124.2.1 - (wrap64 (Int.tdiv bt124.2.1 1460)))) + (wrap64 (Int.tdiv bt124.2.1 36524)))) - (wrap64 (Int.tdiv bt124.2.1 146096)))) 365)))) + (wrap64 (Int.tdiv (wrap64 (Int.tdiv (wrap64 ((wrap64 ((wrap64 (bt124.2.1 - (wrap64 (Int.tdiv bt124.2.1 1460)))) + (wrap64 (Int.tdiv bt124.2.1 36524)))) - (wrap64 (Int.tdiv bt124.2.1 146096)))) 365)) 4)))) - (wrap64 (Int.tdiv (wrap64 (Int.tdiv (wrap64 ((wrap64 ((wrap64 (bt124.2.1 - (wrap64 (Int.tdiv bt124.2.1 1460)))) + (wrap64 (Int.tdiv bt124.2.1 36524)))) - (wrap64 (Int.tdiv bt124.2.1 146096)))) 365)) 100)))))))) + 2)) 153)) + 3)) - 12), wrap64 ((wrap64 ((wrap64 (bt124.2.1 - (wrap64 ((wrap64 ((wrap64 (365 * (wrap64 (Int.tdiv (wrap64 ((wrap64 ((wrap64 (bt124.2.1 - (wrap64 (Int.tdiv bt124.2.1 1460)))) + (wrap64 (Int.tdiv bt124.2.1 36524)))) - (wrap64 (Int.tdiv bt124.2.1 146096)))) 365)))) + (wrap64 (Int.tdiv (wrap64 (Int.tdiv (wrap64 ((wrap64 ((wrap64 (bt124.2.1 - (wrap64 (Int.tdiv bt124.2.1 1460)))) + (wrap64 (Int.tdiv bt124.2.1 36524)))) - (wrap64 (Int.tdiv bt124.2.1 146096)))) 365)) 4)))) - (wrap64 (Int.tdiv (wrap64 (Int.tdiv (wrap64 ((wrap64 ((wrap64 (bt124.2.1 - (wrap64 (Int.tdiv bt124.2.1 1460)))) + (wrap64 (Int.tdiv bt124.2.1 36524)))) - (wrap64 (Int.tdiv bt124.2.1 146096)))) 365)) 100)))))) - (wrap64 (Int.tdiv (wrap64 ((wrap64 (153 * (wrap64 (Int.tdiv (wrap64 ((wrap64 (5 * (wrap64 (bt124.2.1 - (wrap64 ((wrap64 ((wrap64 (365 * (wrap64 (Int.tdiv (wrap64 ((wrap64 ((wrap64 (bt124.2.1 - (wrap64 (Int.tdiv bt124.2.1 1460)))) + (wrap64 (Int.tdiv bt124.2.1 36524)))) - (wrap64 (Int.tdiv bt124.2.1 146096)))) 365)))) + (wrap64 (Int.tdiv (wrap64 (Int.tdiv (wrap64 ((wrap64 ((wrap64 (bt124.2.1 - (wrap64 (Int.tdiv bt124.2.1 1460)))) + (wrap64 (Int.tdiv bt124.2.1 36524)))) - (wrap64 (Int.tdiv bt124.2.1 146096)))) 365)) 4)))) - (wrap64 (Int.tdiv (wrap64 (Int.tdiv (wrap64 ((wrap64 ((wrap64 (bt124.2.1 - (wrap64 (Int.tdiv bt124.2.1 1460)))) + (wrap64 (Int.tdiv bt124.2.1 36524)))) - (wrap64 (Int.tdiv bt124.2.1 146096)))) 365)) 100)))))))) + 2)) 153)))) + 2)) 5)))) + 1), true)) else (some (wrap64 ((wrap64 (400 * bt124.1)) + (wrap64 (Int.tdiv (wrap64 ((wrap64 ((wrap64 (bt124.2.1 - (wrap64 (Int.tdiv bt124.2.1 1460)))) + (wrap64 (Int.tdiv bt124.2.1 36524)))) - (wrap64 (Int.tdiv bt124.2.1 146096)))) 365))), wrap64 ((wrap64 (Int.tdiv (wrap64 ((wrap64 (5 * (wrap64 (bt124.2.1 - (wrap64 ((wrap64 ((wrap64 (365 * (wrap64 (Int.tdiv (wrap64 ((wrap64 ((wrap64 (bt124.2.1 - (wrap64 (Int.tdiv bt124.2.1 1460)))) + (wrap64 (Int.tdiv bt124.2.1 36524)))) - (wrap64 (Int.tdiv bt124.2.1 146096)))) 365)))) + (wrap64 (Int.tdiv (wrap64 (Int.tdiv (wrap64 ((wrap64 ((wrap64 (bt124.2.1 - (wrap64 (Int.tdiv bt124.2.1 1460)))) + (wrap64 (Int.tdiv bt124.2.1 36524)))) - (wrap64 (Int.tdiv bt124.2.1 146096)))) 365)) 4)))) - (wrap64 (Int.tdiv (wrap64 (Int.tdiv (wrap64 ((wrap64 ((wrap64 (bt124.2.1 - (wrap64 (Int.tdiv bt124.2.1 1460)))) + (wrap64 (Int.tdiv bt124.2.1 36524)))) - (wrap64 (Int.tdiv bt124.2.1 146096)))) 365)) 100)))))))) + 2)) 153)) + 3), wrap64 ((wrap64 ((wrap64 (bt124.2.1 - (wrap64 ((wrap64 ((wrap64 (365 * (wrap64 (Int.tdiv (wrap64 ((wrap64 ((wrap64 (bt124.2.1 - (wrap64 (Int.tdiv bt124.2.1 1460)))) + (wrap64 (Int.tdiv bt124.2.1 36524)))) - (wrap64 (Int.tdiv bt124.2.1 146096)))) 365)))) + (wrap64 (Int.tdiv (wrap64 (Int.tdiv (wrap64 ((wrap64 ((wrap64 (bt124.2.1 - (wrap64 (Int.tdiv bt124.2.1 1460)))) + (wrap64 (Int.tdiv bt124.2.1 36524)))) - (wrap64 (Int.tdiv bt124.2.1 146096)))) 365)) 4)))) - (wrap64 (Int.tdiv (wrap64 (Int.tdiv (wrap64 ((wrap64 ((wrap64 (bt124.2.1 - (wrap64 (Int.tdiv bt124.2.1 1460)))) + (wrap64 (Int.tdiv bt124.2.1 36524)))) - (wrap64 (Int.tdiv bt124.2.1 146096)))) 365)) 100)))))) - (wrap64 (Int.tdiv (wrap64 ((wrap64 (153 * (wrap64 (Int.tdiv (wrap64 ((wrap64 (5 * (wrap64 (bt124.2.1 - (wrap64 ((wrap64 ((wrap64 (365 * (wrap64 (Int.tdiv (wrap64 ((wrap64 ((wrap64 (bt124.2.1 - (wrap64 (Int.tdiv bt124.2.1 1460)))) + (wrap64 (Int.tdiv bt124.2.1 36524)))) - (wrap64 (Int.tdiv bt124.2.1 146096)))) 365)))) + (wrap64 (Int.tdiv (wrap64 (Int.tdiv (wrap64 ((wrap64 ((wrap64 (bt124.2.1 - (wrap64 (Int.tdiv bt124.2.1 1460)))) + (wrap64 (Int.tdiv bt124.2.1 36524)))) - (wrap64 (Int.tdiv bt124.2.1 146096)))) 365)) 4)))) - (wrap64 (Int.tdiv (wrap64 (Int.tdiv (wrap64 ((wrap64 ((wrap64 (bt124.2.1 - (wrap64 (Int.tdiv bt124.2.1 1460)))) + (wrap64 (Int.tdiv bt124.2.1 36524)))) - (wrap64 (Int.tdiv bt124.2.1 146096)))) 365)) 100)))))))) + 2)) 153)))) + 2)) 5)))) + 1), true)))) = some (r1, r2, r3, r4) := by rw [if_neg (show ¬ (false = true) by decide)] at H; exact H
        clear H
        have H := H1
        clear H1
        replace H := Option.bind_eq_some_iff.mp H
        obtain ⟨⟨t124, t125, t126⟩, A50, H⟩ := H
        replace H : (if (wrap64 ((wrap64 (Int.tdiv (wrap64 ((wrap64 (5 * (wrap64 (t125 - (wrap64 ((wrap64 ((wrap64 (365 * (wrap64 (Int.tdiv (wrap64 ((wrap64 ((wrap64 (t125 - (wrap64 (Int.tdiv t125 1460)))) + (wrap64 (Int.tdiv t125 36524)))) - (wrap64 (Int.tdiv t125 146096)))) 365)))) + (wrap64 (Int.tdiv (wrap64 (Int.tdiv (wrap64 ((wrap64 ((wrap64 (t125 - (wrap64 (Int.tdiv t125 1460)))) + (wrap64 (Int.tdiv t125 36524)))) - (wrap64 (Int.tdiv t125 146096)))) 365)) 4)))) - (wrap64 (Int.tdiv (wrap64 (Int.tdiv (wrap64 ((wrap64 ((wrap64 (t125 - (wrap64 (Int.tdiv t125 1460)))) + (wrap64 (Int.tdiv t125 36524)))) - (wrap64 (Int.tdiv t125 146096)))) 365)) 100)))))))) + 2)) 153)) + 3)) > 12 then (some (wrap64 ((wrap64 (400 * t124)) + (wrap64 ((wrap64 (Int.tdiv (wrap64 ((wrap64 ((wrap64 (t125 - (wrap64 (Int.tdiv t125 1460)))) + (wrap64 (Int.tdiv t125 36524)))) - (wrap64 (Int.tdiv t125 146096)))) 365)) + 1))), wrap64 ((wrap64 ((wrap64 (Int.tdiv (wrap64 ((wrap64 (5 * (wrap64 (t125 - (wrap64 ((wrap64 ((wrap64 (365 * (wrap64 (Int.tdiv (wrap64 ((wrap64 ((wrap64 (t125 - (wrap64 (Int.tdiv t125 1460)))) + (wrap64 (Int.tdiv t125 36524)))) - (wrap64 (Int.tdiv t125 146096)))) 365)))) + (wrap64 (Int.tdiv (wrap64 (Int.tdiv (wrap64 ((wrap64 ((wrap64 (t125 - (wrap64 (Int.tdiv t125 1460)))) + (wrap64 (Int.tdiv t125 36524)))) - (wrap64 (Int.tdiv t125 146096)))) 365)) 4)))) - (wrap64 (Int.tdiv (wrap64 (Int.tdiv (wrap64 ((wrap64 ((wrap64 (t125 - (wrap64 (Int.tdiv t125 1460)))) + (wrap64 (Int.tdiv t125 36524)))) - (wrap64 (Int.tdiv t125 146096)))) 365)) 100)))))))) + 2)) 153)) + 3)) - 12), wrap64 ((wrap64 ((wrap64 (t125 - (wrap64 ((wrap64 ((wrap64 (365 * (wrap64 (Int.tdiv (wrap64 ((wrap64 ((wrap64 (t125 - (wrap64 (Int.tdiv t125 1460)))) + (wrap64 (Int.tdiv t125 36524)))) - (wrap64 (Int.tdiv t125 146096)))) 365)))) + (wrap64 (Int.tdiv (wrap64 (Int.tdiv (wrap64 ((wrap64 ((wrap64 (t125 - (wrap64 (Int.tdiv t125 1460)))) + (wrap64 (Int.tdiv t125 36524)))) - (wrap64 (Int.tdiv t125 146096)))) 365)) 4)))) - (wrap64 (Int.tdiv (wrap64 (Int.tdiv (wrap64 ((wrap64 ((wrap64 (t125 - (wrap64 (Int.tdiv t125 1460)))) + (wrap64 (Int.tdiv t125 36524)))) - (wrap64 (Int.tdiv t125 146096)))) 365)) 100)))))) - (wrap64 (Int.tdiv (wrap64 ((wrap64 (153 * (wrap64 (Int.tdiv (wrap64 ((wrap64 (5 * (wrap64 (t125 - (wrap64 ((wrap64 ((wrap64 (365 * (wrap64 (Int.tdiv (wrap64 ((wrap64 ((wrap64 (t125 - (wrap64 (Int.tdiv t125 1460)))) + (wrap64 (Int.tdiv t125 36524)))) - (wrap64 (Int.tdiv t125 146096)))) 365)))) + (wrap64 (Int.tdiv (wrap64 (Int.tdiv (wrap64 ((wrap64 ((wrap64 (t125 - (wrap64 (Int.tdiv t125 1460)))) + (wrap64 (Int.tdiv t125 36524)))) - (wrap64 (Int.tdiv t125 146096)))) 365)) 4)))) - (wrap64 (Int.tdiv (wrap64 (Int.tdiv (wrap64 ((wrap64 ((wrap64 (t125 - (wrap64 (Int.tdiv t125 1460)))) + (wrap64 (Int.tdiv t125 36524)))) - (wrap64 (Int.tdiv t125 146096)))) 365)) 100)))))))) + 2)) 153)))) + 2)) 5)))) + 1), true)) else (some (wrap64 ((wrap64 (400 * t124)) + (wrap64 (Int.tdiv (wrap64 ((wrap64 ((wrap64 (t125 - (wrap64 (Int.tdiv t125 1460)))) + (wrap64 (Int.tdiv t125 36524)))) - (wrap64 (Int.tdiv t125 146096)))) 365))), wrap64 ((wrap64 (Int.tdiv (wrap64 ((wrap64 (5 * (wrap64 (t125 - (wrap64 ((wrap64 ((wrap64 (365 * (wrap64 (Int.tdiv (wrap64 ((wrap64 ((wrap64 (t125 - (wrap64 (Int.tdiv t125 1460)))) + (wrap64 (Int.tdiv t125 36524)))) - (wrap64 (Int.tdiv t125 146096)))) 365)))) + (wrap64 (Int.tdiv (wrap64 (Int.tdiv (wrap64 ((wrap64 ((wrap64 (t125 - (wrap64 (Int.tdiv t125 1460)))) + (wrap64 (Int.tdiv t125 36524)))) - (wrap64 (Int.tdiv t125 146096)))) 365)) 4)))) - (wrap64 (Int.tdiv (wrap64 (Int.tdiv (wrap64 ((wrap64 ((wrap64 (t125 - (wrap64 (Int.tdiv t125 1460)))) + (wrap64 (Int.tdiv t125 36524)))) - (wrap64 (Int.tdiv t125 146096)))) 365)) 100)))))))) + 2)) 153)) + 3), wrap64 ((wrap64 ((wrap64 (t125 - (wrap64 ((wrap64 ((wrap64 (365 * (wrap64 (Int.tdiv (wrap64 ((wrap64 ((wrap64 (t125 - (wrap64 (Int.tdiv t125 1460)))) + (wrap64 (Int.tdiv t125 36524)))) - (wrap64 (Int.tdiv t125 146096)))) 365)))) + (wrap64 (Int.tdiv (wrap64 (Int.tdiv (wrap64 ((wrap64 ((wrap64 (t125 - (wrap64 (Int.tdiv t125 1460)))) + (wrap64 (Int.tdiv t125 36524)))) - (wrap64 (Int.tdiv t125 146096)))) 365)) 4)))) - (wrap64 (Int.tdiv (wrap64 (Int.tdiv (wrap64 ((wrap64 ((wrap64 (t125 - (wrap64 (Int.tdiv t125 1460)))) + (wrap64 (Int.tdiv t125 36524)))) - (wrap64 (Int.tdiv t125 146096)))) 365)) 100)))))) - (wrap64 (Int.tdiv (wrap64 ((wrap64 (153 * (wrap64 (Int.tdiv (wrap64 ((wrap64 (5 * (wrap64 (t125 - (wrap64 ((wrap64 ((wrap64 (365 * (wrap64 (Int.tdiv (wrap64 ((wrap64 ((wrap64 (t125 - (wrap64 (Int.tdiv t125 1460)))) + (wrap64 (Int.tdiv t125 36524)))) - (wrap64 (Int.tdiv t125 146096)))) 365)))) + (wrap64 (Int.tdiv (wrap64 (Int.tdiv (wrap64 ((wrap64 ((wrap64 (t125 - (wrap64 (Int.tdiv t125 1460)))) + (wrap64 (Int.tdiv t125 36524)))) - (wrap64 (Int.tdiv t125 146096)))) 365)) 4)))) - (wrap64 (Int.tdiv (wrap64 (Int.tdiv (wrap64 ((wrap64 ((wrap64 (t125 - (wrap64 (Int.tdiv t125 1460)))) + (wrap64 (Int.tdiv t125 36524)))) - (wrap64 (Int.tdiv t125 146096)))) 365)) 100)))))))) + 2)) 153)))) + 2)) 5)))) + 1), true))) = some (r1, r2, r3, r4) := H
        have A5 := Aside0.mk A50
        clear A50
        by_cases c6 : (wrap64 ((wrap64 (Int.tdiv (wrap64 ((wrap64 (5 * (wrap64 (t125 - (wrap64 ((wrap64 ((wrap64 (365 * (wrap64 (Int.tdiv (wrap64 ((wrap64 ((wrap64 (t125 - (wrap64 (Int.tdiv t125 1460)))) + (wrap64 (Int.tdiv t125 36524)))) - (wrap64 (Int.tdiv t125 146096)))) 365)))) + (wrap64 (Int.tdiv (wrap64 (Int.tdiv (wrap64 ((wrap64 ((wrap64 (t125 - (wrap64 (Int.tdiv t125 1460)))) + (wrap64 (Int.tdiv t125 36524)))) - (wrap64 (Int.tdiv t125 146096)))) 365)) 4)))) - (wrap64 (Int.tdiv (wrap64 (Int.tdiv (wrap64 ((wrap64 ((wrap64 (t125 - (wrap64 (Int.tdiv t125 1460)))) + (wrap64 (Int.tdiv t125 36524)))) - (wrap64 (Int.tdiv t125 146096)))) 365)) 100)))))))) + 2)) 153)) + 3)) > 12
        · rw [if_pos c6] at H
          have c6b0 : decide (12 < (wrap64 ((wrap64 (Int.tdiv (wrap64 ((wrap64 (5 * (wrap64 (t125 - (wrap64 ((wrap64 ((wrap64 (365 * (wrap64 (Int.tdiv (wrap64 ((wrap64 ((wrap64 (t125 - (wrap64 (Int.tdiv t125 1460)))) + (wrap64 (Int.tdiv t125 36524)))) - (wrap64 (Int.tdiv t125 146096)))) 365)))) + (wrap64 (Int.tdiv (wrap64 (Int.tdiv (wrap64 ((wrap64 ((wrap64 (t125 - (wrap64 (Int.tdiv t125 1460)))) + (wrap64 (Int.tdiv t125 36524)))) - (wrap64 (Int.tdiv t125 146096)))) 365)) 4)))) - (wrap64 (Int.tdiv (wrap64 (Int.tdiv (wrap64 ((wrap64 ((wrap64 (t125 - (wrap64 (Int.tdiv t125 1460)))) + (wrap64 (Int.tdiv t125 36524)))) - (wrap64 (Int.tdiv t125 146096)))) 365)) 100)))))))) + 2)) 153)) + 3))) = true := decide_eq_true c6
          clear c6
          simp only [Option.some.injEq, Prod.mk.injEq] at H
          obtain ⟨rfl, rfl, rfl, rfl⟩ := H
          go_wp2_with (first | ((with_reducible refine gate_callee (f := 23) rfl ?_); refine goesL_ (some 19) rfl rfl Try.func23 (by kernel_rfl) rfl #[.int .i64 (wrap64 (a0 + 719468)), .int .i64 146097] rfl (by (try simp only [List.map_toArray, List.map_cons, List.map_nil]); first | done | rfl | (simp only [List.length_drop, List.length_take]; rfl)) ?_; (with_reducible refine (num_Div.calls (wrap64 (a0 + 719468)) 146097 t124 t125 t126 _ A5.out).mono ?_); rintro e w' ⟨rfl, ⟨nd, rfl⟩⟩; refine ⟨_, rfl, ?_⟩))
          refine bodyPost_ret (results_list (rs := [.tmp 2, .tmp 3, .tmp 4, .tmp 5]) rfl (by simp) (.tmp (.tmp (.tmp (.tmp .nil))))) rfl ?_
          exact ⟨by first | rfl | (simp; done) | (simp [*]; done), by repeat (first | exact Drawn0.refl _ | apply Drawn0.step)⟩
        · rw [if_neg c6] at H
          have c6b0 : decide (12 < (wrap64 ((wrap64 (Int.tdiv (wrap64 ((wrap64 (5 * (wrap64 (t125 - (wrap64 ((wrap64 ((wrap64 (365 * (wrap64 (Int.tdiv (wrap64 ((wrap64 ((wrap64 (t125 - (wrap64 (Int.tdiv t125 1460)))) + (wrap64 (Int.tdiv t125 36524)))) - (wrap64 (Int.tdiv t125 146096)))) 365)))) + (wrap64 (Int.tdiv (wrap64 (Int.tdiv (wrap64 ((wrap64 ((wrap64 (t125 - (wrap64 (Int.tdiv t125 1460)))) + (wrap64 (Int.tdiv t125 36524)))) - (wrap64 (Int.tdiv t125 146096)))) 365)) 4)))) - (wrap64 (Int.tdiv (wrap64 (Int.tdiv (wrap64 ((wrap64 ((wrap64 (t125 - (wrap64 (Int.tdiv t125 1460)))) + (wrap64 (Int.tdiv t125 36524)))) - (wrap64 (Int.tdiv t125 146096)))) 365)) 100)))))))) + 2)) 153)) + 3))) = false := decide_eq_false c6
          clear c6
          simp only [Option.some.injEq, Prod.mk.injEq] at H
          obtain ⟨rfl, rfl, rfl, rfl⟩ := H
          go_wp2_with (first | ((with_reducible refine gate_callee (f := 23) rfl ?_); refine goesL_ (some 19) rfl rfl Try.func23 (by kernel_rfl) rfl #[.int .i64 (wrap64 (a0 + 719468)), .int .i64 146097] rfl (by (try simp only [List.map_toArray, List.map_cons, List.map_nil]); first | done | rfl | (simp only [List.length_drop, List.length_take]; rfl)) ?_; (with_reducible refine (num_Div.calls (wrap64 (a0 + 719468)) 146097 t124 t125 t126 _ A5.out).mono ?_); rintro e w' ⟨rfl, ⟨nd, rfl⟩⟩; refine ⟨_, rfl, ?_⟩))
          refine bodyPost_ret (results_list (rs := [.tmp 2, .tmp 3, .tmp 4, .tmp 5]) rfl (by simp) (.tmp (.tmp (.tmp (.tmp .nil))))) rfl ?_
          exact ⟨by first | rfl | (simp; done) | (simp [*]; done), by repeat (first | exact Drawn0.refl _ | apply Drawn0.step)⟩

/-! ### day_Leap: function 71 -/
def day_Leap.f (a0 : Int) : Option (Bool) := if (Int.tmod a0 4) = 0 then (if (Int.tmod a0 100) = 0 then (some ((Int.tmod a0 400) == 0)) else (some true)) else (some false)
set_option maxHeartbeats 8000000 in
set_option maxRecDepth 100000 in
theorem day_Leap.calls (a0 : Int) (r : Bool) (w : World) (h : day_Leap.f a0 = some r) :
    Calls Try.prog 71 #[.int .i64 a0] w fun e w' => e = .returned (.bool r) ∧ Drawn0 w w' := by
  have H : (if (Int.tmod a0 4) = 0 then (if (Int.tmod a0 100) = 0 then (some ((Int.tmod a0 400) == 0)) else (some true)) else (some false)) = some r := h
  clear h
  by_cases c2 : (Int.tmod a0 4) = 0
  · rw [if_pos c2] at H
    have c2b0 : ((Int.tmod a0 4) == 0) = true := beq_iff_eq.mpr c2
    have c2b1 : ((Int.tmod a0 4) != 0) = false := bne_eq_false_iff_eq.mpr c2
    clear c2
    by_cases c3 : (Int.tmod a0 100) = 0
    · rw [if_pos c3] at H
      have c3b0 : ((Int.tmod a0 100) == 0) = true := beq_iff_eq.mpr c3
      have c3b1 : ((Int.tmod a0 100) != 0) = false := bne_eq_false_iff_eq.mpr c3
      clear c3
      obtain rfl := Option.some.inj H
      go_enter Try.func71, Try.ntmps71
      go_wp2
      go_ret
      exact ⟨by first | rfl | (simp; done) | (simp [*]; done), by repeat (first | exact Drawn0.refl _ | apply Drawn0.step)⟩
    · rw [if_neg c3] at H
      have c3b0 : ((Int.tmod a0 100) == 0) = false := beq_eq_false_iff_ne.mpr c3
      have c3b1 : ((Int.tmod a0 100) != 0) = true := bne_iff_ne.mpr c3
      obtain rfl := Option.some.inj H
      go_enter Try.func71, Try.ntmps71
      go_wp2
      go_ret
      exact ⟨by first | rfl | (simp; done) | (simp [*]; done), by repeat (first | exact Drawn0.refl _ | apply Drawn0.step)⟩
  · rw [if_neg c2] at H
    have c2b0 : ((Int.tmod a0 4) == 0) = false := beq_eq_false_iff_ne.mpr c2
    have c2b1 : ((Int.tmod a0 4) != 0) = true := bne_iff_ne.mpr c2
    obtain rfl := Option.some.inj H
    go_enter Try.func71, Try.ntmps71
    go_wp2
    go_ret
    exact ⟨by first | rfl | (simp; done) | (simp [*]; done), by repeat (first | exact Drawn0.refl _ | apply Drawn0.step)⟩

/-! ### day_Last: function 68 -/
-- by hand: wip/hand
/-- the months' days, of a year that is no leap year -/
def day_Last.tab (m : Int) : Int := if m = 2 then 28 else if m = 4 ∨ m = 6 ∨ m = 9 ∨ m = 11 then 30 else 31
def day_Last.f (a0 : Int) (a1 : Int) : Option (Int × Bool) :=
  if a0 < 1 ∨ a0 > 9999 ∨ a1 < 1 ∨ a1 > 12 then some (0, false)
  else if a1 = 2 then (day_Leap.f a0).bind fun t => some (if t = true then 29 else 28, true)
  else some (day_Last.tab a1, true)
theorem day_Last.at0 (w : World) : (Instr.index 69 (.agg #[.int .i64 31, .int .i64 28, .int .i64 31, .int .i64 30, .int .i64 31, .int .i64 30, .int .i64 31, .int .i64 31, .int .i64 30, .int .i64 31, .int .i64 30, .int .i64 31]) (.int .i64 0)).run Try.prog w = .ok (.int .i64 31) w := by kernel_rfl
theorem day_Last.at1 (w : World) : (Instr.index 69 (.agg #[.int .i64 31, .int .i64 28, .int .i64 31, .int .i64 30, .int .i64 31, .int .i64 30, .int .i64 31, .int .i64 31, .int .i64 30, .int .i64 31, .int .i64 30, .int .i64 31]) (.int .i64 1)).run Try.prog w = .ok (.int .i64 28) w := by kernel_rfl
theorem day_Last.at2 (w : World) : (Instr.index 69 (.agg #[.int .i64 31, .int .i64 28, .int .i64 31, .int .i64 30, .int .i64 31, .int .i64 30, .int .i64 31, .int .i64 31, .int .i64 30, .int .i64 31, .int .i64 30, .int .i64 31]) (.int .i64 2)).run Try.prog w = .ok (.int .i64 31) w := by kernel_rfl
theorem day_Last.at3 (w : World) : (Instr.index 69 (.agg #[.int .i64 31, .int .i64 28, .int .i64 31, .int .i64 30, .int .i64 31, .int .i64 30, .int .i64 31, .int .i64 31, .int .i64 30, .int .i64 31, .int .i64 30, .int .i64 31]) (.int .i64 3)).run Try.prog w = .ok (.int .i64 30) w := by kernel_rfl
theorem day_Last.at4 (w : World) : (Instr.index 69 (.agg #[.int .i64 31, .int .i64 28, .int .i64 31, .int .i64 30, .int .i64 31, .int .i64 30, .int .i64 31, .int .i64 31, .int .i64 30, .int .i64 31, .int .i64 30, .int .i64 31]) (.int .i64 4)).run Try.prog w = .ok (.int .i64 31) w := by kernel_rfl
theorem day_Last.at5 (w : World) : (Instr.index 69 (.agg #[.int .i64 31, .int .i64 28, .int .i64 31, .int .i64 30, .int .i64 31, .int .i64 30, .int .i64 31, .int .i64 31, .int .i64 30, .int .i64 31, .int .i64 30, .int .i64 31]) (.int .i64 5)).run Try.prog w = .ok (.int .i64 30) w := by kernel_rfl
theorem day_Last.at6 (w : World) : (Instr.index 69 (.agg #[.int .i64 31, .int .i64 28, .int .i64 31, .int .i64 30, .int .i64 31, .int .i64 30, .int .i64 31, .int .i64 31, .int .i64 30, .int .i64 31, .int .i64 30, .int .i64 31]) (.int .i64 6)).run Try.prog w = .ok (.int .i64 31) w := by kernel_rfl
theorem day_Last.at7 (w : World) : (Instr.index 69 (.agg #[.int .i64 31, .int .i64 28, .int .i64 31, .int .i64 30, .int .i64 31, .int .i64 30, .int .i64 31, .int .i64 31, .int .i64 30, .int .i64 31, .int .i64 30, .int .i64 31]) (.int .i64 7)).run Try.prog w = .ok (.int .i64 31) w := by kernel_rfl
theorem day_Last.at8 (w : World) : (Instr.index 69 (.agg #[.int .i64 31, .int .i64 28, .int .i64 31, .int .i64 30, .int .i64 31, .int .i64 30, .int .i64 31, .int .i64 31, .int .i64 30, .int .i64 31, .int .i64 30, .int .i64 31]) (.int .i64 8)).run Try.prog w = .ok (.int .i64 30) w := by kernel_rfl
theorem day_Last.at9 (w : World) : (Instr.index 69 (.agg #[.int .i64 31, .int .i64 28, .int .i64 31, .int .i64 30, .int .i64 31, .int .i64 30, .int .i64 31, .int .i64 31, .int .i64 30, .int .i64 31, .int .i64 30, .int .i64 31]) (.int .i64 9)).run Try.prog w = .ok (.int .i64 31) w := by kernel_rfl
theorem day_Last.at10 (w : World) : (Instr.index 69 (.agg #[.int .i64 31, .int .i64 28, .int .i64 31, .int .i64 30, .int .i64 31, .int .i64 30, .int .i64 31, .int .i64 31, .int .i64 30, .int .i64 31, .int .i64 30, .int .i64 31]) (.int .i64 10)).run Try.prog w = .ok (.int .i64 30) w := by kernel_rfl
theorem day_Last.at11 (w : World) : (Instr.index 69 (.agg #[.int .i64 31, .int .i64 28, .int .i64 31, .int .i64 30, .int .i64 31, .int .i64 30, .int .i64 31, .int .i64 31, .int .i64 30, .int .i64 31, .int .i64 30, .int .i64 31]) (.int .i64 11)).run Try.prog w = .ok (.int .i64 31) w := by kernel_rfl
set_option maxHeartbeats 8000000 in
set_option maxRecDepth 100000 in
theorem day_Last.calls (a0 : Int) (a1 : Int) (r1 : Int) (r2 : Bool) (w : World) (h : day_Last.f a0 a1 = some (r1, r2)) :
    Calls Try.prog 68 #[.int .i64 a0, .int .i64 a1] w fun e w' => e = .returned (.tuple #[.int .i64 r1, .bool r2]) ∧ Drawn0 w w' := by
  have H : (if a0 < 1 ∨ a0 > 9999 ∨ a1 < 1 ∨ a1 > 12 then some (0, false) else if a1 = 2 then (day_Leap.f a0).bind fun t => some (if t = true then 29 else 28, true) else some (day_Last.tab a1, true)) = some (r1, r2) := h
  clear h
  by_cases c1 : a0 < 1 ∨ a0 > 9999 ∨ a1 < 1 ∨ a1 > 12
  · rw [if_pos c1] at H
    simp only [Option.some.injEq, Prod.mk.injEq] at H
    obtain ⟨rfl, rfl⟩ := H
    have HX := Aside0.mk c1
    by_cases c2 : a0 < 1
    · clear c1
      have b2 : decide (a0 < 1) = true := decide_eq_true c2
      go_enter Try.func68, Try.ntmps68
      go_wp2
      repeat (go_quiet (fail); try go_wp2)
      go_ret2
      exact ⟨rfl, by repeat (first | exact Drawn0.refl _ | apply Drawn0.step)⟩
    · have b2 : decide (a0 < 1) = false := decide_eq_false c2
      by_cases c3 : 9999 < a0
      · clear c1
        have b3 : decide (9999 < a0) = true := decide_eq_true c3
        go_enter Try.func68, Try.ntmps68
        go_wp2
        repeat (go_quiet (fail); try go_wp2)
        go_ret2
        exact ⟨rfl, by repeat (first | exact Drawn0.refl _ | apply Drawn0.step)⟩
      · have b3 : decide (9999 < a0) = false := decide_eq_false c3
        by_cases c4 : a1 < 1
        · clear c1
          have b4 : decide (a1 < 1) = true := decide_eq_true c4
          go_enter Try.func68, Try.ntmps68
          go_wp2
          repeat (go_quiet (fail); try go_wp2)
          go_ret2
          exact ⟨rfl, by repeat (first | exact Drawn0.refl _ | apply Drawn0.step)⟩
        · have b4 : decide (a1 < 1) = false := decide_eq_false c4
          have c5 : 12 < a1 := by omega
          clear c1
          have b5 : decide (12 < a1) = true := decide_eq_true c5
          go_enter Try.func68, Try.ntmps68
          go_wp2
          repeat (go_quiet (fail); try go_wp2)
          go_ret2
          exact ⟨rfl, by repeat (first | exact Drawn0.refl _ | apply Drawn0.step)⟩
  · rw [if_neg c1] at H
    have b2 : decide (a0 < 1) = false := decide_eq_false (by omega)
    have b3 : decide (9999 < a0) = false := decide_eq_false (by omega)
    have c4 : a1 = 1 ∨ a1 = 2 ∨ a1 = 3 ∨ a1 = 4 ∨ a1 = 5 ∨ a1 = 6 ∨ a1 = 7 ∨ a1 = 8 ∨ a1 = 9 ∨ a1 = 10 ∨ a1 = 11 ∨ a1 = 12 := by omega
    clear c1
    rcases c4 with rfl | rfl | rfl | rfl | rfl | rfl | rfl | rfl | rfl | rfl | rfl | rfl
    case inr.inl =>
      rw [if_pos rfl] at H
      cases hl : day_Leap.f a0 with
      | none => rw [hl] at H; exact absurd H (by simp)
      | some t =>
        rw [hl] at H
        have hc := day_Leap.calls a0 t
        have HC := Aside0.mk hc
        clear hc
        have HL := Aside0.mk hl
        clear hl
        have hix := day_Last.at1
        cases t with
        | true =>
          simp only [Option.bind_some, if_true, Option.some.injEq, Prod.mk.injEq] at H
          obtain ⟨rfl, rfl⟩ := H
          go_enter Try.func68, Try.ntmps68
          go_wp2_with (go_at_call 71; refine (HC.out _ HL.out).mono ?_; rintro e w' ⟨rfl, hd⟩)
          go_ret2
          exact ⟨rfl, by repeat (first | exact Drawn0.refl _ | exact hd | apply Drawn0.step)⟩
        | false =>
          simp only [Option.bind_some, Bool.false_eq_true, if_false, Option.some.injEq, Prod.mk.injEq] at H
          obtain ⟨rfl, rfl⟩ := H
          go_enter Try.func68, Try.ntmps68
          go_wp2_with (go_at_call 71; refine (HC.out _ HL.out).mono ?_; rintro e w' ⟨rfl, hd⟩)
          go_ret2
          exact ⟨rfl, by repeat (first | exact Drawn0.refl _ | exact hd | apply Drawn0.step)⟩
    · rw [if_neg (by omega)] at H
      simp only [day_Last.tab] at H
      simp at H
      obtain ⟨rfl, rfl⟩ := H
      have hix := day_Last.at0
      go_enter Try.func68, Try.ntmps68
      go_wp2
      repeat (go_quiet (fail); try go_wp2)
      go_ret2
      exact ⟨rfl, by repeat (first | exact Drawn0.refl _ | apply Drawn0.step)⟩
    · rw [if_neg (by omega)] at H
      simp only [day_Last.tab] at H
      simp at H
      obtain ⟨rfl, rfl⟩ := H
      have hix := day_Last.at2
      go_enter Try.func68, Try.ntmps68
      go_wp2
      repeat (go_quiet (fail); try go_wp2)
      go_ret2
      exact ⟨rfl, by repeat (first | exact Drawn0.refl _ | apply Drawn0.step)⟩
    · rw [if_neg (by omega)] at H
      simp only [day_Last.tab] at H
      simp at H
      obtain ⟨rfl, rfl⟩ := H
      have hix := day_Last.at3
      go_enter Try.func68, Try.ntmps68
      go_wp2
      repeat (go_quiet (fail); try go_wp2)
      go_ret2
      exact ⟨rfl, by repeat (first | exact Drawn0.refl _ | apply Drawn0.step)⟩
    · rw [if_neg (by omega)] at H
      simp only [day_Last.tab] at H
      simp at H
      obtain ⟨rfl, rfl⟩ := H
      have hix := day_Last.at4
      go_enter Try.func68, Try.ntmps68
      go_wp2
      repeat (go_quiet (fail); try go_wp2)
      go_ret2
      exact ⟨rfl, by repeat (first | exact Drawn0.refl _ | apply Drawn0.step)⟩
    · rw [if_neg (by omega)] at H
      simp only [day_Last.tab] at H
      simp at H
      obtain ⟨rfl, rfl⟩ := H
      have hix := day_Last.at5
      go_enter Try.func68, Try.ntmps68
      go_wp2
      repeat (go_quiet (fail); try go_wp2)
      go_ret2
      exact ⟨rfl, by repeat (first | exact Drawn0.refl _ | apply Drawn0.step)⟩
    · rw [if_neg (by omega)] at H
      simp only [day_Last.tab] at H
      simp at H
      obtain ⟨rfl, rfl⟩ := H
      have hix := day_Last.at6
      go_enter Try.func68, Try.ntmps68
      go_wp2
      repeat (go_quiet (fail); try go_wp2)
      go_ret2
      exact ⟨rfl, by repeat (first | exact Drawn0.refl _ | apply Drawn0.step)⟩
    · rw [if_neg (by omega)] at H
      simp only [day_Last.tab] at H
      simp at H
      obtain ⟨rfl, rfl⟩ := H
      have hix := day_Last.at7
      go_enter Try.func68, Try.ntmps68
      go_wp2
      repeat (go_quiet (fail); try go_wp2)
      go_ret2
      exact ⟨rfl, by repeat (first | exact Drawn0.refl _ | apply Drawn0.step)⟩
    · rw [if_neg (by omega)] at H
      simp only [day_Last.tab] at H
      simp at H
      obtain ⟨rfl, rfl⟩ := H
      have hix := day_Last.at8
      go_enter Try.func68, Try.ntmps68
      go_wp2
      repeat (go_quiet (fail); try go_wp2)
      go_ret2
      exact ⟨rfl, by repeat (first | exact Drawn0.refl _ | apply Drawn0.step)⟩
    · rw [if_neg (by omega)] at H
      simp only [day_Last.tab] at H
      simp at H
      obtain ⟨rfl, rfl⟩ := H
      have hix := day_Last.at9
      go_enter Try.func68, Try.ntmps68
      go_wp2
      repeat (go_quiet (fail); try go_wp2)
      go_ret2
      exact ⟨rfl, by repeat (first | exact Drawn0.refl _ | apply Drawn0.step)⟩
    · rw [if_neg (by omega)] at H
      simp only [day_Last.tab] at H
      simp at H
      obtain ⟨rfl, rfl⟩ := H
      have hix := day_Last.at10
      go_enter Try.func68, Try.ntmps68
      go_wp2
      repeat (go_quiet (fail); try go_wp2)
      go_ret2
      exact ⟨rfl, by repeat (first | exact Drawn0.refl _ | apply Drawn0.step)⟩
    · rw [if_neg (by omega)] at H
      simp only [day_Last.tab] at H
      simp at H
      obtain ⟨rfl, rfl⟩ := H
      have hix := day_Last.at11
      go_enter Try.func68, Try.ntmps68
      go_wp2
      repeat (go_quiet (fail); try go_wp2)
      go_ret2
      exact ⟨rfl, by repeat (first | exact Drawn0.refl _ | apply Drawn0.step)⟩

/-! ### day_End: function 65 -/
def day_End.f (k : Nat) (a0 : Int) : Option (Bool) := (day_Date.f k a0).bind fun bt127 => ((day_Last.f bt127.1 bt127.2.1).bind fun bt131 => (if bt127.2.2.2 = true then (some (bt127.2.2.1 == bt131.1)) else (some false)))
theorem day_End.mono : ∀ a0 k, LeO (day_End.f k a0) (day_End.f (k + 1) a0) := by
  intro a0 k
  unfold day_End.f
  repeat' first
      | (with_reducible exact day_Date.mono _ _)
      | (with_reducible exact LeO.refl _)
      | (with_reducible exact LeO.none _)
      | (with_reducible refine LeO.ite ?_ ?_)
      | (with_reducible refine LeO.bind ?_ (fun _ => ?_))
      | exact day_Date.mono _ _
      | exact LeO.none _
      | refine LeO.ite ?_ ?_
      | refine LeO.bind ?_ (fun _ => ?_)
set_option maxHeartbeats 8000000 in
set_option maxRecDepth 100000 in
theorem day_End.calls (k : Nat) (a0 : Int) (r : Bool) (w : World) (h : day_End.f k a0 = some r) :
    Calls Try.prog 65 #[.int .i64 a0] w fun e w' => e = .returned (.bool r) ∧ Drawn0 w w' := by
  have H : ((day_Date.f k a0).bind fun bt127 => ((day_Last.f bt127.1 bt127.2.1).bind fun bt131 => (if bt127.2.2.2 = true then (some (bt127.2.2.1 == bt131.1)) else (some false)))) = some r := h
  clear h
  replace H := Option.bind_eq_some_iff.mp H
  obtain ⟨⟨t127, t128, t129, t130⟩, A20, H⟩ := H
  replace H : ((day_Last.f t127 t128).bind fun bt131 => (if t130 = true then (some (t129 == bt131.1)) else (some false))) = some r := H
  have A2 := Aside0.mk A20
  clear A20
  replace H := Option.bind_eq_some_iff.mp H
  obtain ⟨⟨t131, t132⟩, A30, H⟩ := H
  replace H : (if t130 = true then (some (t129 == t131)) else (some false)) = some r := H
  have A3 := Aside0.mk A30
  clear A30
  by_cases c4 : t130 = true
  · subst c4
    have H1 : (some (t129 == t131)) = some r := by rw [if_pos rfl] at H; exact H
    clear H
    have H := H1
    clear H1
    obtain rfl := Option.some.inj H
    go_enter Try.func65, Try.ntmps65
    go_wp2_with (first | ((with_reducible refine gate_callee (f := 67) rfl ?_); refine goesL_ (some 11) rfl rfl Try.func67 (by kernel_rfl) rfl #[.int .i64 a0] rfl (by (try simp only [List.map_toArray, List.map_cons, List.map_nil]); first | done | rfl | (simp only [List.length_drop, List.length_take]; rfl)) ?_; (with_reducible refine (day_Date.calls k a0 t127 t128 t129 true _ A2.out).mono ?_); rintro e w' ⟨rfl, ⟨nd, rfl⟩⟩; refine ⟨_, rfl, ?_⟩) | ((with_reducible refine gate_callee (f := 68) rfl ?_); refine goesL_ (some 19) rfl rfl Try.func68 (by kernel_rfl) rfl #[.int .i64 t127, .int .i64 t128] rfl (by (try simp only [List.map_toArray, List.map_cons, List.map_nil]); first | done | rfl | (simp only [List.length_drop, List.length_take]; rfl)) ?_; (with_reducible refine (day_Last.calls t127 t128 t131 t132 _ A3.out).mono ?_); rintro e w' ⟨rfl, ⟨nd, rfl⟩⟩; refine ⟨_, rfl, ?_⟩))
    go_ret
    exact ⟨by first | rfl | (simp; done) | (simp [*]; done), by repeat (first | exact Drawn0.refl _ | apply Drawn0.step)⟩
  · replace c4 := Bool.eq_false_iff.mpr c4
    subst c4
    have H1 : (some false) = some r := by rw [if_neg (show ¬ (false = true) by decide)] at H; exact H
    clear H
    have H := H1
    clear H1
    obtain rfl := Option.some.inj H
    go_enter Try.func65, Try.ntmps65
    go_wp2_with (first | ((with_reducible refine gate_callee (f := 67) rfl ?_); refine goesL_ (some 11) rfl rfl Try.func67 (by kernel_rfl) rfl #[.int .i64 a0] rfl (by (try simp only [List.map_toArray, List.map_cons, List.map_nil]); first | done | rfl | (simp only [List.length_drop, List.length_take]; rfl)) ?_; (with_reducible refine (day_Date.calls k a0 t127 t128 t129 false _ A2.out).mono ?_); rintro e w' ⟨rfl, ⟨nd, rfl⟩⟩; refine ⟨_, rfl, ?_⟩) | ((with_reducible refine gate_callee (f := 68) rfl ?_); refine goesL_ (some 19) rfl rfl Try.func68 (by kernel_rfl) rfl #[.int .i64 t127, .int .i64 t128] rfl (by (try simp only [List.map_toArray, List.map_cons, List.map_nil]); first | done | rfl | (simp only [List.length_drop, List.length_take]; rfl)) ?_; (with_reducible refine (day_Last.calls t127 t128 t131 t132 _ A3.out).mono ?_); rintro e w' ⟨rfl, ⟨nd, rfl⟩⟩; refine ⟨_, rfl, ?_⟩))
    go_ret
    exact ⟨by first | rfl | (simp; done) | (simp [*]; done), by repeat (first | exact Drawn0.refl _ | apply Drawn0.step)⟩

end Go.Proofs.Ytlfnkamhokfeaaa.PAll
