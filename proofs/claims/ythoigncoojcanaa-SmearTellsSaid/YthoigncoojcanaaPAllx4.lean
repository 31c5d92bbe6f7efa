-- Written for this claim by wip/tools of this repo (after the kit's print; own contracts laid in).
import Derived.Test.YthoigncoojcanaaPAllx0
import Derived.Test.YthoigncoojcanaaShort
import Derived.Test.YthoigncoojcanaaPAllx2
import Derived.Test.YthoigncoojcanaaPAllx3
namespace Go.Proofs.Ythoigncoojcanaa.PAll
open Go.RowKit Go.Proofs.YthoigncoojcanaaW.PrintWords Go.Proofs.YthoigncoojcanaaW.PrintLast Go.Proofs.YthoigncoojcanaaW.PrintMore
attribute [local go_sem] max2_int min2_int max_two min_two max_three min_three max_four min_four   -- for this text's walks alone
set_option linter.unusedVariables false
set_option linter.unusedSimpArgs false

/-! ### record_leaps: function 84 -/
def record_leaps.j0 : Nat → List (S53) → Int → Bool → Option ((List (S53)))
 | 0, _, _, _ => none
 | k + 1, x0, x3, x7 => if x7 = true then (if 0 ≤ x3 then (if x3 ≤ (x0.length : Int) then (some (x0.take (x3 : Int).toNat)) else (none)) else (none)) else (if x3 > 0 then (if 0 ≤ x3 then (if x3 < (x0.length : Int) then (if 0 ≤ (wrap64 (x3 - 1)) then (if (wrap64 (x3 - 1)) < (x0.length : Int) then (if ((rd_T53 x0 x3).f1) = ((rd_T53 x0 (wrap64 (x3 - 1))).f1) then (if x3 ≤ (x0.length : Int) then (some (x0.take (x3 : Int).toNat)) else (none)) else (some x0)) else (none)) else (none)) else (none)) else (none)) else (some x0))
def record_leaps.f (k : Nat) (l0 : List (S53)) : Option ((List (S53))) := if (wrap64 ((l0.length : Int) - 1)) = 0 then (if 0 < (l0.length : Int) then (record_leaps.j0 k l0 (wrap64 ((l0.length : Int) - 1)) (((rd_T53 l0 0).f1) == 0)) else (none)) else (record_leaps.j0 k l0 (wrap64 ((l0.length : Int) - 1)) false)
theorem record_leaps.mono_l : ∀ k, (∀ y0 y1 y2, LeO (record_leaps.j0 k y0 y1 y2) (record_leaps.j0 (k + 1) y0 y1 y2))
 | 0 => fun _ _ _ r h => by simp [record_leaps.j0] at h
 | k + 1 => by
  have ih0 := record_leaps.mono_l k
  ·intro y0 y1 y2
   unfold record_leaps.j0
   repeat' first
   | (with_reducible exact ih0 _ _ _)
   | (with_reducible exact LeO.refl _)
   | (with_reducible exact LeO.none _)
   | (with_reducible refine LeO.ite ?_ ?_)
   | (with_reducible refine LeO.bind ?_ (fun _ => ?_))
theorem record_leaps.mono : ∀ a0 k, LeO (record_leaps.f k a0) (record_leaps.f (k + 1) a0) := by
 intro a0 k
 have ih0 := record_leaps.mono_l k
 unfold record_leaps.f
 repeat' first
   | (with_reducible exact ih0 _ _ _)
   | (with_reducible exact LeO.refl _)
   | (with_reducible exact LeO.none _)
   | (with_reducible refine LeO.ite ?_ ?_)
   | (with_reducible refine LeO.bind ?_ (fun _ => ?_))
set_option maxHeartbeats 8000000 in
set_option maxRecDepth 100000 in
theorem record_leaps.calls (k : Nat) (P0_ : Nat → Prop) (A0 : Option Addr) (c0 : Nat) (l0 : List (S53)) (r : List (S53)) (w : World) (hs0 : Kd.V k53 53 w w.heap.size (fun k_ => P0_ k_) (.slice A0 l0.length c0) l0) (h : record_leaps.f k l0 = some r) :
  Calls Try.prog 84 #[.slice A0 l0.length c0] w fun e w' => ∃ v0_ : Value, e = .returned (v0_) ∧ Kd.V k53 53 w' w.heap.size (fun k_ => (P0_ k_ ∨ w.heap.size ≤ k_)) v0_ r ∧ Below w.heap.size w w' := by
 have HO0 := Aside0.mk (show Kd.V k53 53 w w.heap.size (fun k_ => (P0_ k_ ∨ w.heap.size ≤ k_)) (.slice A0 l0.length c0) l0 from Kd.V_mono hs0 (fun k_ hk => .inl hk))
 have HB := Aside0.mk (Below.refl w.heap.size w)
 have H : (if (wrap64 ((l0.length : Int) - 1)) = 0 then (if 0 < (l0.length : Int) then (record_leaps.j0 k l0 (wrap64 ((l0.length : Int) - 1)) (((rd_T53 l0 0).f1) == 0)) else (none)) else (record_leaps.j0 k l0 (wrap64 ((l0.length : Int) - 1)) false)) = some r := h
 clear h
 have HC2 := Aside0.mk H
 clear H
 go_enter Try.func84, Try.ntmps84
 go_upto_region 2 with (fail)
 repeat (go_quiet (fail); go_upto_region 2 with (fail))
 go_cut [7] (fun v7 wc => ∃ (kq : Nat) (x7_1 : Bool), v7 = .bool x7_1 ∧ Aside0 (record_leaps.j0 kq l0 (wrap64 ((l0.length : Int) - 1)) x7_1 = some r) ∧ Aside0 (kq ≤ k) ∧ Aside0 (Kd.V k53 53 wc w.heap.size (fun k_ => (P0_ k_ ∨ w.heap.size ≤ k_)) (.slice A0 l0.length c0) l0) ∧ Aside0 (Below w.heap.size w wc))
 case first =>
  have H := HC2.out
  clear HC2
  by_cases c3 : (wrap64 ((l0.length : Int) - 1)) = 0
  ·rw [if_pos c3] at H
   have c3b0 : ((wrap64 ((l0.length : Int) - 1)) == 0) = true := beq_iff_eq.mpr c3
   have c3b1 : ((wrap64 ((l0.length : Int) - 1)) != 0) = false := bne_eq_false_iff_eq.mpr c3
   clear c3
   (first | rw [c3b0] | (simp only [i64_w, i32_w]; rw [c3b0]) | skip)
   by_cases c4 : 0 < (l0.length : Int)
   ·rw [if_pos c4] at H
    have c4b0 : decide (0 < (l0.length : Int)) = true := decide_eq_true c4
    have c4b1 : decide (0 < l0.length) = true := decide_eq_true (by omega)
    clear c4
    have H' := Aside0.mk H
    clear H
    have p126 : 0 ≤ (0 : Int) := (by omega)
    have q126 : 0 < (l0.length : Int) := pa
    obtain ⟨ad126, e126, hx126_0, hx126_1⟩ := at_T53 (Kd.V_reads' HO0.out).2.2 0 p126 q126
    cases e126
    have qi126 : (0 < l0.length) = True := eq_true (by omega)
    (try rw [show ((0 : Int)).toNat = 0 from rfl] at hx126_0)
    (try rw [show 0 * 2 = 0 from rfl] at hx126_0)
    (try rw [Addr.add_zero'] at hx126_0)
    (try rw [show ((0 : Int)).toNat = 0 from rfl] at hx126_1)
    (try rw [show 0 * 2 = 0 from rfl] at hx126_1)
    (try rw [Addr.add_zero'] at hx126_1)
    replace p126 := eq_true p126
    replace q126 := eq_true q126
    go_wp2
    repeat (go_quiet (fail); try go_wp2)
    go_meet
    case rel => exact ⟨_, ((((rd_T53 l0 0).f1) == 0)), pr, H', om, ⟨by (with_reducible repeat (first | apply Kd.V_alloc | apply Kd.V_drewN | apply Kd.V_drew)); exact HO0.out⟩, ba HB⟩
   ·rw [if_neg c4] at H
    exact absurd H (by simp)
  ·rw [if_neg c3] at H
   have c3b0 : ((wrap64 ((l0.length : Int) - 1)) == 0) = false := beq_eq_false_iff_ne.mpr c3
   have c3b1 : ((wrap64 ((l0.length : Int) - 1)) != 0) = true := bne_iff_ne.mpr c3
   (first | rw [c3b0] | (simp only [i64_w, i32_w]; rw [c3b0]) | skip)
   have H' := Aside0.mk H
   clear H
   go_wp2
   repeat (go_quiet (fail); try go_wp2)
   go_meet
   case rel => exact ⟨_, (false), pr, H', om, ⟨by (with_reducible repeat (first | apply Kd.V_alloc | apply Kd.V_drewN | apply Kd.V_drew)); exact HO0.out⟩, ba HB⟩
 case rest =>
  clear HC2
  try clear p1
  try clear q1
  try clear hx1
  try clear qi1
  try clear p2
  try clear c3
  try clear c3b0
  try clear c3b1
  try clear c4
  try clear c4b0
  try clear c4b1
  try clear hx126_0
  try clear hx126_1
  try clear p126
  try clear q126
  obtain ⟨kq, x7_1, rfl, HA, HJ1, HO_0, HB⟩ := hcut
  cases kq with
  | zero => exact absurd HA.out (by simp [record_leaps.j0])
  | succ kj1 =>
   have H := HA.out
   clear HA
   simp only [record_leaps.j0] at H
   by_cases c5 : x7_1 = true
   ·subst c5
    rw [if_pos rfl] at H
    obtain ⟨ji6, hji6⟩ : ∃ j_ : Int, (wrap64 ((l0.length : Int) - 1)) = j_ := ⟨_, rfl⟩
    replace H : (if 0 ≤ (ji6) then (if (ji6) ≤ (l0.length : Int) then (some (l0.take ((ji6) : Int).toNat)) else (none)) else (none)) = some r := by first | (rw [hji6] at H; exact H) | (simp only [hji6] at H ⊢; exact H)
    have hji6w : (IntKind.i64.wrap ((l0.length : Int) - 1)) = ji6 := (i64_w _).trans hji6
    by_cases c7 : 0 ≤ (ji6)
    ·rw [if_pos c7] at H
     have c7b0 := eq_true c7
     have c7b1 : decide (0 ≤ (ji6)) = true := decide_eq_true c7
     clear c7
     by_cases c8 : (ji6) ≤ (l0.length : Int)
     ·rw [if_pos c8] at H
      have c8b0 := eq_true c8
      have c8b1 : decide ((ji6) ≤ (l0.length : Int)) = true := decide_eq_true c8
      clear c8
      obtain ⟨y127, hy127⟩ : ∃ y_ : List (S53), y_ = (l0.take ((ji6) : Int).toNat) := ⟨_, rfl⟩
      replace H : (some y127) = some r := by first | (rw [hy127]; with_reducible exact H) | (have H2_ := (Option.bind_some _ _).symm.trans H; rw [hy127]; with_reducible exact H2_) | (have H2_ := (Option.bind_some _ _).symm.trans H; with_reducible exact H2_) | with_reducible exact H | (rw [hy127]; exact H) | exact H
      have Ny127 := Aside0.mk hy127
      clear hy127
      obtain rfl := Option.some.inj H
      have q9 : ((ji6) : Int) ≤ ((l0.length : Int) : Int) := pa
      obtain ⟨i09, hi09, _, hsz9, _⟩ := info_parts info53
      have hroom9 : l0.length ≤ c0 := (Kd.V_reads' HO_0.out).2.1
      have hC9 : Kd.F k53 _ _ A0 l0.length l0 := (Kd.V_at (base := w.heap.size) HO_0.out).2.2
      have hcut9 := cut_to (P := Try.prog) 22 53 .i64 Try.underlying22 hi09 A0 l0.length c0 (ji6) (pa) q9 hroom9
      have hr9 := Kd.F_take (m := ((ji6) : Int).toNat) hC9 (by omega)
      have hy9 : y127.length = ((ji6) : Int).toNat := (by rw [Ny127.out, List.length_take]; omega)
      rw [← Ny127.out] at hr9
      rw [← hy9] at hcut9
      have HO131 := Aside0.mk (show Kd.V k53 53 _ w.heap.size _ (.slice A0 y127.length c0) y127 from Kd.V_mk (by omega) hr9)
      have HC131 := Aside0.mk (show y127.length ≤ c0 from by omega)
      clear hr9 hC9 hroom9 hi09 hsz9
      have KY9 := Aside0.mk hy9
      clear hy9
      replace q9 := eq_true q9
      go_wp2
      repeat (go_quiet (fail); try go_wp2)
      go_ret
      exact ⟨_, by first | rfl | (simp [errW_none, errW_some] <;> rfl) | (simp only [← hji6]; first | rfl | (simp [errW_none, errW_some] <;> rfl)) | (simp [*, errW_none, errW_some] <;> rfl), by (with_reducible repeat (first | apply Kd.V_alloc | apply Kd.V_drewN | apply Kd.V_drew)); exact HO131.out, by repeat (first | (with_reducible first | exact HB.out | apply below_alloc | apply pw_below_drewN | apply below_drew1) | exact HB.out)⟩
     ·rw [if_neg c8] at H
      exact absurd H (by simp)
    ·rw [if_neg c7] at H
     exact absurd H (by simp)
   ·replace c5 := Bool.eq_false_iff.mpr c5
    subst c5
    rw [if_neg (show ¬ (false = true) by decide)] at H
    by_cases c10 : (wrap64 ((l0.length : Int) - 1)) > 0
    ·rw [if_pos c10] at H
     have c10b0 : decide (0 < (wrap64 ((l0.length : Int) - 1))) = true := decide_eq_true c10
     clear c10
     obtain ⟨ji11, hji11⟩ : ∃ j_ : Int, (wrap64 ((l0.length : Int) - 1)) = j_ := ⟨_, rfl⟩
     replace H : (if 0 ≤ (ji11) then (if (ji11) < (l0.length : Int) then (if 0 ≤ (wrap64 ((ji11) - 1)) then (if (wrap64 ((ji11) - 1)) < (l0.length : Int) then (if ((rd_T53 l0 (ji11)).f1) = ((rd_T53 l0 (wrap64 ((ji11) - 1))).f1) then (if (ji11) ≤ (l0.length : Int) then (some (l0.take ((ji11) : Int).toNat)) else (none)) else (some l0)) else (none)) else (none)) else (none)) else (none)) = some r := by first | (rw [hji11] at H; exact H) | (simp only [hji11] at H ⊢; exact H)
     (try rw [hji11] at c10b0)
     have hji11w : (IntKind.i64.wrap ((l0.length : Int) - 1)) = ji11 := (i64_w _).trans hji11
     by_cases c12 : 0 ≤ (ji11)
     ·rw [if_pos c12] at H
      have c12b0 : decide (0 ≤ (ji11)) = true := decide_eq_true c12
      clear c12
      by_cases c13 : (ji11) < (l0.length : Int)
      ·rw [if_pos c13] at H
       have c13b0 : decide ((ji11) < (l0.length : Int)) = true := decide_eq_true c13
       clear c13
       obtain ⟨ji14, hji14⟩ : ∃ j_ : Int, (wrap64 ((ji11) - 1)) = j_ := ⟨_, rfl⟩
       replace H : (if 0 ≤ (ji14) then (if (ji14) < (l0.length : Int) then (if ((rd_T53 l0 (ji11)).f1) = ((rd_T53 l0 (ji14)).f1) then (if (ji11) ≤ (l0.length : Int) then (some (l0.take ((ji11) : Int).toNat)) else (none)) else (some l0)) else (none)) else (none)) = some r := by first | (rw [hji14] at H; exact H) | (simp only [hji14] at H ⊢; exact H)
       have hji14w : (IntKind.i64.wrap ((ji11) - 1)) = ji14 := (i64_w _).trans hji14
       by_cases c15 : 0 ≤ (ji14)
       ·rw [if_pos c15] at H
        have c15b0 : decide (0 ≤ (ji14)) = true := decide_eq_true c15
        clear c15
        by_cases c16 : (ji14) < (l0.length : Int)
        ·rw [if_pos c16] at H
         have c16b0 : decide ((ji14) < (l0.length : Int)) = true := decide_eq_true c16
         clear c16
         by_cases c17 : ((rd_T53 l0 (ji11)).f1) = ((rd_T53 l0 (ji14)).f1)
         ·rw [if_pos c17] at H
          have c17b0 : (((rd_T53 l0 (ji11)).f1) == ((rd_T53 l0 (ji14)).f1)) = true := beq_iff_eq.mpr c17
          have c17b1 : (((rd_T53 l0 (ji11)).f1) != ((rd_T53 l0 (ji14)).f1)) = false := bne_eq_false_iff_eq.mpr c17
          clear c17
          have c18b0 := eq_true (pa : 0 ≤ (ji11))
          by_cases c19 : (ji11) ≤ (l0.length : Int)
          ·rw [if_pos c19] at H
           have c19b0 := eq_true c19
           have c19b1 : decide ((ji11) ≤ (l0.length : Int)) = true := decide_eq_true c19
           clear c19
           obtain ⟨y134, hy134⟩ : ∃ y_ : List (S53), y_ = (l0.take ((ji11) : Int).toNat) := ⟨_, rfl⟩
           replace H : (some y134) = some r := by first | (rw [hy134]; with_reducible exact H) | (have H2_ := (Option.bind_some _ _).symm.trans H; rw [hy134]; with_reducible exact H2_) | (have H2_ := (Option.bind_some _ _).symm.trans H; with_reducible exact H2_) | with_reducible exact H | (rw [hy134]; exact H) | exact H
           have Ny134 := Aside0.mk hy134
           clear hy134
           obtain rfl := Option.some.inj H
           have p132 : 0 ≤ ((ji11) : Int) := pa
           have q132 : (ji11) < (l0.length : Int) := pa
           obtain ⟨ad132, e132, hx132_0, hx132_1⟩ := at_T53 (Kd.V_reads' HO_0.out).2.2 (ji11) p132 q132
           cases e132
           replace p132 := eq_true p132
           replace q132 := eq_true q132
           have p133 : 0 ≤ ((ji14) : Int) := pa
           have q133 : (ji14) < (l0.length : Int) := pa
           obtain ⟨ad133, e133, hx133_0, hx133_1⟩ := at_T53 (Kd.V_reads' HO_0.out).2.2 (ji14) p133 q133
           obtain rfl : ad132 = ad133 := (by injection e133)
           replace p133 := eq_true p133
           replace q133 := eq_true q133
           have q20 : ((ji11) : Int) ≤ ((l0.length : Int) : Int) := pa
           obtain ⟨i020, hi020, _, hsz20, _⟩ := info_parts info53
           have hroom20 : l0.length ≤ c0 := (Kd.V_reads' HO_0.out).2.1
           have hC20 : Kd.F k53 _ _ (some ad132) l0.length l0 := (Kd.V_at (base := w.heap.size) HO_0.out).2.2
           have hcut20 := cut_to (P := Try.prog) 22 53 .i64 Try.underlying22 hi020 (some ad132) l0.length c0 (ji11) (pa) q20 hroom20
           have hr20 := Kd.F_take (m := ((ji11) : Int).toNat) hC20 (by omega)
           have hy20 : y134.length = ((ji11) : Int).toNat := (by rw [Ny134.out, List.length_take]; omega)
           rw [← Ny134.out] at hr20
           rw [← hy20] at hcut20
           have HO138 := Aside0.mk (show Kd.V k53 53 _ w.heap.size _ (.slice (some ad132) y134.length c0) y134 from Kd.V_mk (by omega) hr20)
           have HC138 := Aside0.mk (show y134.length ≤ c0 from by omega)
           clear hr20 hC20 hroom20 hi020 hsz20
           have KY20 := Aside0.mk hy20
           clear hy20
           replace q20 := eq_true q20
           go_wp2
           repeat (go_quiet (fail); try go_wp2)
           go_ret
           exact ⟨_, by first | rfl | (simp [errW_none, errW_some] <;> rfl) | (simp only [← hji11, ← hji14]; first | rfl | (simp [errW_none, errW_some] <;> rfl)) | (simp [*, errW_none, errW_some] <;> rfl), by (with_reducible repeat (first | apply Kd.V_alloc | apply Kd.V_drewN | apply Kd.V_drew)); exact HO138.out, by repeat (first | (with_reducible first | exact HB.out | apply below_alloc | apply pw_below_drewN | apply below_drew1) | exact HB.out)⟩
          ·rw [if_neg c19] at H
           exact absurd H (by simp)
         ·rw [if_neg c17] at H
          have c17b0 : (((rd_T53 l0 (ji11)).f1) == ((rd_T53 l0 (ji14)).f1)) = false := beq_eq_false_iff_ne.mpr c17
          have c17b1 : (((rd_T53 l0 (ji11)).f1) != ((rd_T53 l0 (ji14)).f1)) = true := bne_iff_ne.mpr c17
          obtain rfl := Option.some.inj H
          have p132 : 0 ≤ ((ji11) : Int) := pa
          have q132 : (ji11) < (l0.length : Int) := pa
          obtain ⟨ad132, e132, hx132_0, hx132_1⟩ := at_T53 (Kd.V_reads' HO_0.out).2.2 (ji11) p132 q132
          cases e132
          replace p132 := eq_true p132
          replace q132 := eq_true q132
          have p133 : 0 ≤ ((ji14) : Int) := pa
          have q133 : (ji14) < (l0.length : Int) := pa
          obtain ⟨ad133, e133, hx133_0, hx133_1⟩ := at_T53 (Kd.V_reads' HO_0.out).2.2 (ji14) p133 q133
          obtain rfl : ad132 = ad133 := (by injection e133)
          replace p133 := eq_true p133
          replace q133 := eq_true q133
          go_wp2
          repeat (go_quiet (fail); try go_wp2)
          go_ret
          exact ⟨_, by first | rfl | (simp [errW_none, errW_some] <;> rfl) | (simp only [← hji11, ← hji14]; first | rfl | (simp [errW_none, errW_some] <;> rfl)) | (simp [*, errW_none, errW_some] <;> rfl), by (with_reducible repeat (first | apply Kd.V_alloc | apply Kd.V_drewN | apply Kd.V_drew)); exact HO_0.out, by repeat (first | (with_reducible first | exact HB.out | apply below_alloc | apply pw_below_drewN | apply below_drew1) | exact HB.out)⟩
        ·rw [if_neg c16] at H
         exact absurd H (by simp)
       ·rw [if_neg c15] at H
        exact absurd H (by simp)
      ·rw [if_neg c13] at H
       exact absurd H (by simp)
     ·rw [if_neg c12] at H
      exact absurd H (by simp)
    ·rw [if_neg c10] at H
     have c10b0 : decide (0 < (wrap64 ((l0.length : Int) - 1))) = false := decide_eq_false c10
     clear c10
     obtain rfl := Option.some.inj H
     go_wp2
     repeat (go_quiet (fail); try go_wp2)
     go_ret
     exact ⟨_, by first | rfl | (simp [errW_none, errW_some] <;> rfl) | (simp [*, errW_none, errW_some] <;> rfl), by (with_reducible repeat (first | apply Kd.V_alloc | apply Kd.V_drewN | apply Kd.V_drew)); exact HO_0.out, by repeat (first | (with_reducible first | exact HB.out | apply below_alloc | apply pw_below_drewN | apply below_drew1) | exact HB.out)⟩

/-! ### record_Table: function 67 -/
def record_Table.l0 : Nat → List (S53) → Int → List (S53) → List (S53) → Int → Int → List (S49) → Bool → Int → Option ((List (S49)) × Bool × Int × Bool)
 | 0, _, _, _, _, _, _, _, _, _ => none
 | k + 1, x0, x4, x5, x14, x15, x16, x140000, x140001, x140002 => if x16 < x15 then (if 0 ≤ x16 then (if x16 < (x14.length : Int) then ((num_Div.f (wrap64 ((wrap64 (((rd_T53 x14 x16).f0) - x4)) - (mn (wrap64 (((rd_T53 x14 x16).f1) - x4)) 0))) 86400).bind fun bt145 => (if bt145.2.1 = 0 then (if x140000.length < 5864062014805 then (record_Table.l0 k x0 ((rd_T53 x14 x16).f1) x5 x14 x15 (wrap64 (x16 + 1)) (x140000 ++ [(⟨wrap64 (bt145.1 - 1), wrap64 (((rd_T53 x14 x16).f1) - x4), false⟩ : S49)]) x140001 x140002) else (none)) else (some (([] : List (S49)), false, 0, false)))) else (none)) else (none)) else (if (x5.length : Int) < (x0.length : Int) then (if 0 ≤ (x5.length : Int) then ((leap_Right.f k x140000 (decide ((x5.length : Int) < (x0.length : Int))) (wrap64 (((rd_T53 x0 (x5.length : Int)).f0) - x4))).bind fun t152 => (if t152 = true then (some (x140000, decide ((x5.length : Int) < (x0.length : Int)), wrap64 (((rd_T53 x0 (x5.length : Int)).f0) - x4), true)) else (some (([] : List (S49)), false, 0, false)))) else (none)) else ((leap_Right.f k x140000 (decide ((x5.length : Int) < (x0.length : Int))) x140002).bind fun t153 => (if t153 = true then (some (x140000, decide ((x5.length : Int) < (x0.length : Int)), x140002, true)) else (some (([] : List (S49)), false, 0, false)))))
def record_Table.f (k : Nat) (l0 : List (S53)) : Option ((List (S49)) × Bool × Int × Bool) := (record_leaps.f k l0).bind fun t140 => (record_Table.l0 k l0 0 t140 t140 (t140.length : Int) 0 ([] : List (S49)) false 0)
theorem record_Table.mono_l : ∀ k, (∀ y0 y1 y2 y3 y4 y5 y6 y7 y8, LeO (record_Table.l0 k y0 y1 y2 y3 y4 y5 y6 y7 y8) (record_Table.l0 (k + 1) y0 y1 y2 y3 y4 y5 y6 y7 y8))
 | 0 => fun _ _ _ _ _ _ _ _ _ r h => by simp [record_Table.l0] at h
 | k + 1 => by
  have ih0 := record_Table.mono_l k
  ·intro y0 y1 y2 y3 y4 y5 y6 y7 y8
   unfold record_Table.l0
   repeat' first
   | (with_reducible exact ih0 _ _ _ _ _ _ _ _ _)
   | (with_reducible exact leap_Right.mono _ _ _ _)
   | (with_reducible exact record_leaps.mono _ _)
   | (with_reducible exact LeO.refl _)
   | (with_reducible exact LeO.none _)
   | (with_reducible refine LeO.ite ?_ ?_)
   | (with_reducible refine LeO.bind ?_ (fun _ => ?_))
theorem record_Table.mono : ∀ a0 k, LeO (record_Table.f k a0) (record_Table.f (k + 1) a0) := by
 intro a0 k
 have ih0 := record_Table.mono_l k
 unfold record_Table.f
 repeat' first
   | (with_reducible exact ih0 _ _ _ _ _ _ _ _ _)
   | (with_reducible exact leap_Right.mono _ _ _ _)
   | (with_reducible exact record_leaps.mono _ _)
   | (with_reducible exact LeO.refl _)
   | (with_reducible exact LeO.none _)
   | (with_reducible refine LeO.ite ?_ ?_)
   | (with_reducible refine LeO.bind ?_ (fun _ => ?_))
set_option maxHeartbeats 8000000 in
set_option maxRecDepth 100000 in
theorem record_Table.calls (k : Nat) (A0 : Option Addr) (c0 : Nat) (l0 : List (S53)) (r1 : List (S49)) (r2 : Bool) (r3 : Int) (r4 : Bool) (w : World) (hr0 : Kd.C k53 w A0 l0.length l0) (hc0 : l0.length ≤ c0) (h : record_Table.f k l0 = some (r1, r2, r3, r4)) :
  Calls Try.prog 67 #[.slice A0 l0.length c0] w fun e w' => ∃ v0_ : Value, e = .returned (.tuple #[.agg #[v0_, .bool r2, .int .i64 r3], .bool r4]) ∧ Kd.R k49 49 w' w.heap.size (fun _ => True) v0_ r1 ∧ Below w.heap.size w w' := by
 have hu44 := Try.underlying44
 have hu53 := Try.underlying53
 have hu49 := Try.underlying49
 have HR0 := Aside0.mk hr0
 have HC0 := Aside0.mk hc0
 clear hr0 hc0
 have HB := Aside0.mk (Below.refl w.heap.size w)
 have H : ((record_leaps.f k l0).bind fun t140 => (record_Table.l0 k l0 0 t140 t140 (t140.length : Int) 0 ([] : List (S49)) false 0)) = some (r1, r2, r3, r4) := h
 clear h
 obtain ⟨t140, A2, H⟩ := bnd H
 try dsimp only at H
 have H' := Aside0.mk H
 clear H
 go_enter Try.func67, Try.ntmps67
 go_wp2_with (first | (refine bx 2 #[.slice none 0 0, .bool false, .int .i64 0] 44 ?_; intro gb139 hg w3 hbox hb; have n1_ := Aside0.mk (hbox); have GW139 := gw HB hg; have GE139 := gw HB hg; replace HB := bs HB hb; have BK139 := n1_; clear n1_; clear hb hbox hg) | (refine gL (some 13) Try.func84 #[.slice A0 l0.length c0] ?_; (with_reducible refine (record_leaps.calls k (fun k_ => k_ < w.heap.size) _ _ l0 t140 _ ?side1 A2.out).mono ?_); (case side1 => exact Kd.V_mk HC0.out (Kd.F_below (Kd.C_F k53_heap HR0.out) (by repeat (first | (with_reducible first | exact HB.out | apply below_alloc | apply pw_below_drewN | apply below_drew1 | refine below_set ?_ GE139.out) | exact HB.out)))); rintro e w4 ⟨v141, rfl, ho0, hb⟩; refine ⟨_, rfl, ?_⟩; have n0_ := Aside0.mk (Kd.V_lower (Kd.V_mono (ok' := fun k_ => k_ ≠ gb139) ho0 (fun k_ hk_ => Or.elim hk_ (fun hs_ => fun e_ => Nat.not_le.2 hs_ (by rw [e_]; exact GW139.out)) (fun hn_ => (Kd.freshB (g := gb139) (o := .cells #[.slice none 0 0, .bool false, .int .i64 0] 44 (0, 0)) (ka BK139).out k_ hn_)))) (below_size (by repeat (first | (with_reducible first | exact HB.out | apply below_alloc | apply pw_below_drewN | apply below_drew1 | refine below_set ?_ GE139.out) | exact HB.out)))); replace BK139 := kb BK139 hb; replace HB := bs HB hb; have HO142 := n0_; clear n0_; (try clear hb); (try clear ho0); obtain ⟨Ao5, co5, eo5⟩ := Kd.V_slice HO142.out; subst eo5))
 go_loopg [4, 16] k (fun kq v4 v16 w' => ∃ (x4_1 : Int) (x16_1 : Int) (x140000_1 : List (S49)) (x140001_1 : Bool) (x140002_1 : Int) (u140000 : Value), v4 = .int .i64 x4_1 ∧ v16 = .int .i64 x16_1 ∧ Aside0 (record_Table.l0 kq l0 x4_1 t140 t140 (t140.length : Int) x16_1 x140000_1 x140001_1 x140002_1 = some (r1, r2, r3, r4)) ∧ Aside0 (kq ≤ k) ∧ Aside0 (Kd.V k53 53 w' w.heap.size (fun k_ => some k_ ≠ (u140000 : Value).ownBlock ∧ k_ ≠ gb139) (.slice Ao5 t140.length co5) t140) ∧ Aside0 (Kd.V k53 53 w' w.heap.size (fun k_ => some k_ ≠ (u140000 : Value).ownBlock ∧ k_ ≠ gb139) (.slice Ao5 t140.length co5) t140) ∧ Aside0 (Kd.R k49 49 w' w.heap.size (fun _ => True) u140000 x140000_1) ∧ Aside0 (w'.heap[gb139]? = some (.cells #[u140000, .bool x140001_1, .int .i64 x140002_1] 44 (0, 0))) ∧ Aside0 (Below w.heap.size w w'))
 case atStart => exact ⟨(0), (0), (([] : List (S49))), (false), (0), (.slice none 0 0), pr, pr, H', ⟨Nat.le_refl _⟩, ⟨by (with_reducible repeat (first | apply Kd.V_alloc | apply Kd.V_drewN | apply Kd.V_drew)); exact Kd.V_mono HO142.out (fun _ hk => ⟨(by simp [Value.ownBlock]), hk⟩)⟩, ⟨by (with_reducible repeat (first | apply Kd.V_alloc | apply Kd.V_drewN | apply Kd.V_drew)); exact Kd.V_mono HO142.out (fun _ hk => ⟨(by simp [Value.ownBlock]), hk⟩)⟩, ⟨by first | exact Kd.R_nil _ _ _ _ _ | exact Kd.N_nil _ _ _ _ _ | exact Kd.V_nil _ _ _ _ _ | exact Kd.Q_nil _ _ _ _ _ | exact Kd.S_nil _ _ _ _ _⟩, ka BK139, ba HB⟩
 case round =>
  clear H'
  try clear p2
  obtain ⟨x4_1, x16_1, x140000_1, x140001_1, x140002_1, u140000, rfl, rfl, HA, HK1, HO_5, HO_14, HO_140000, BK139, HB⟩ := hrel
  cases gk with
  | zero => exact absurd HA.out (by simp [record_Table.l0])
  | succ k1 =>
   have H := HA.out
   clear HA
   simp only [record_Table.l0] at H
   by_cases c6 : x16_1 < (t140.length : Int)
   ·rw [if_pos c6] at H
    have c6b0 : decide (x16_1 < (t140.length : Int)) = true := decide_eq_true c6
    clear c6
    by_cases c7 : 0 ≤ x16_1
    ·rw [if_pos c7] at H
     have c7b0 : decide (0 ≤ x16_1) = true := decide_eq_true c7
     clear c7
     by_cases c8 : x16_1 < (t140.length : Int)
     ·rw [if_pos c8] at H
      have c8b0 : decide (x16_1 < (t140.length : Int)) = true := decide_eq_true c8
      clear c8
      obtain ⟨ji9, hji9⟩ : ∃ j_ : Int, (mn (wrap64 (((rd_T53 t140 x16_1).f1) - x4_1)) 0) = j_ := ⟨_, rfl⟩
      replace H : ((num_Div.f (wrap64 ((wrap64 (((rd_T53 t140 x16_1).f0) - x4_1)) - (ji9))) 86400).bind fun bt145 => (if bt145.2.1 = 0 then (if x140000_1.length < 5864062014805 then (record_Table.l0 k1 l0 ((rd_T53 t140 x16_1).f1) t140 t140 (t140.length : Int) (wrap64 (x16_1 + 1)) (x140000_1 ++ [(⟨wrap64 (bt145.1 - 1), wrap64 (((rd_T53 t140 x16_1).f1) - x4_1), false⟩ : S49)]) x140001_1 x140002_1) else (none)) else (some (([] : List (S49)), false, 0, false)))) = some (r1, r2, r3, r4) := by first | (rw [hji9] at H; exact H) | (simp only [hji9] at H ⊢; exact H)
      have hji9_ : (if 0 < (wrap64 (((rd_T53 t140 x16_1).f1) - x4_1)) then 0 else (wrap64 (((rd_T53 t140 x16_1).f1) - x4_1))) = ji9 := hji9
      obtain ⟨⟨t145, t146, t147⟩, A10, H⟩ := bnd H
      try dsimp only at H
      by_cases c11 : t146 = 0
      ·rw [if_pos c11] at H
       have c11b0 : (t146 == 0) = true := beq_iff_eq.mpr c11
       have c11b1 : (t146 != 0) = false := bne_eq_false_iff_eq.mpr c11
       clear c11
       by_cases c12 : x140000_1.length < 5864062014805
       ·rw [if_pos c12] at H
        have LMc12 := Aside0.mk c12
        clear c12
        obtain ⟨y148, hy148⟩ : ∃ y_ : List (S49), y_ = (x140000_1 ++ [(⟨wrap64 (t145 - 1), wrap64 (((rd_T53 t140 x16_1).f1) - x4_1), false⟩ : S49)]) := ⟨_, rfl⟩
        replace H : (record_Table.l0 k1 l0 ((rd_T53 t140 x16_1).f1) t140 t140 (t140.length : Int) (wrap64 (x16_1 + 1)) y148 x140001_1 x140002_1) = some (r1, r2, r3, r4) := by first | (rw [hy148]; with_reducible exact H) | (have H2_ := (Option.bind_some _ _).symm.trans H; rw [hy148]; with_reducible exact H2_) | (have H2_ := (Option.bind_some _ _).symm.trans H; with_reducible exact H2_) | with_reducible exact H | (rw [hy148]; exact H) | exact H
        have Ny148 := Aside0.mk hy148
        clear hy148
        have H' := Aside0.mk H
        clear H
        have p143 : 0 ≤ (x16_1 : Int) := pa
        have q143 : x16_1 < (t140.length : Int) := pa
        obtain ⟨ad143, e143, hx143_0, hx143_1⟩ := at_T53 (Kd.V_reads' HO_14.out).2.2 x16_1 p143 q143
        cases e143
        replace p143 := eq_true p143
        replace q143 := eq_true q143
        go_wp2_with (first | (refine bx 7 #[.int .i64 0, .int .i64 0] 53 ?_; intro gb144 hg w13 hbox hb; have n0_ := Aside0.mk (Kd.V_below (Kd.V_elderB (by (with_reducible repeat (first | apply Kd.V_alloc | apply Kd.V_drewN | apply Kd.V_drew)); exact HO_5.out) gb144 (Nat.le_of_eq hg.symm)) hb); have n1_ := Aside0.mk (Kd.V_below (Kd.V_elderB (by (with_reducible repeat (first | apply Kd.V_alloc | apply Kd.V_drewN | apply Kd.V_drew)); exact HO_14.out) gb144 (Nat.le_of_eq hg.symm)) hb); have n5_ := Aside0.mk (hbox); have GW144 := gw HB hg; have GE144 := gw HB hg; have NB139_144 := nl BK139 hg; have NB144_139 := nr BK139 hg; replace HO_140000 := rb HO_140000 hb; replace BK139 := kb BK139 hb; replace HB := bs HB hb; clear HO_5; clear HO_14; have HO_5 := n0_; have HO_14 := n1_; have BK144 := n5_; clear n0_ n1_ n5_; clear hb hbox hg; have hnb14 := NB144_139.out; have hnc14 := NB139_144.out; have hcz15_0 := bc BK144 0; have hcz15_1 := bc BK144 1; have hfz15_0 := bf BK144 0; have hfz15_1 := bf BK144 1) | ((with_reducible refine gate_callee (f := 57) rfl ?_); refine goesL_ (some 32) rfl rfl Try.func57 (by kernel_rfl) rfl #[.int .i64 (wrap64 ((wrap64 (((rd_T53 t140 x16_1).f0) - x4_1)) - (ji9))), .int .i64 86400] rfl (by (try simp only [List.map_toArray, List.map_cons, List.map_nil]); first | done | (simp only [hji9]; rfl) | rfl | (simp only [List.length_drop, List.length_take]; rfl)) ?_; (with_reducible refine (num_Div.calls (wrap64 ((wrap64 (((rd_T53 t140 x16_1).f0) - x4_1)) - (ji9))) 86400 t145 t146 t147 _ A10.out).mono ?_); rintro e w' ⟨rfl, ⟨nd, rfl⟩⟩; refine ⟨_, rfl, ?_⟩; have hcz16_0 := bc BK139 0; have hcz16_1 := bc BK139 1; have hcz16_2 := bc BK139 2; have hfz16_0 := bf BK139 0; have hfz16_1 := bf BK139 1; have hfz16_2 := bf BK139 2) | ((with_reducible refine gate_builtin (b := .append) (xs := #[.tmp 40, .tmp 45]) rfl ?_); at_builtin; refine Kd.R_append k49 (w0 := w) w.heap.size rfl (.tmp 40) (.tmp 45) 42 49 (.agg #[(.int .i64 0), (.int .i64 0), (.bool false)]) 24 rfl Try.underlying42 info49 rfl (by decide) (by omega) u140000 x140000_1 (⟨wrap64 (t145 - 1), wrap64 (((rd_T53 t140 x16_1).f1) - x4_1), false⟩ : S49) [.int .i64 (wrap64 (t145 - 1)), .int .i64 (wrap64 (((rd_T53 t140 x16_1).f1) - x4_1)), .bool false] (fun _ => True) (fun _ => False) rfl (by first | (go_simp; done) | (go_simp; rfl)) ?aP (fun _ hk => hk.elim) ?aF ?aO ?aB ?aS ?aL ?_; (case aP => exact k49_mkM _ _ _ (⟨wrap64 (t145 - 1), wrap64 (((rd_T53 t140 x16_1).f1) - x4_1), false⟩ : S49)); (case aB => exact (by repeat (first | (with_reducible first | exact HB.out | apply below_alloc | apply pw_below_drewN | apply below_drew1 | refine below_set ?_ GE139.out | refine below_set ?_ GE144.out) | exact HB.out))); (case aF => exact (fun _ _ => trivial)); (case aO => exact (by (with_reducible repeat (first | apply Kd.R_alloc | apply Kd.R_drewN | apply Kd.R_drew)); exact Kd.R_mono (Kd.R_far (p := ⟨gb144, 1, none⟩) (Kd.R_far (p := ⟨gb144, 0, none⟩) (Kd.R_types HO_140000.out BK144.out (by decide)) (fun _ hk => hk.2) (.int .i64 ((rd_T53 t140 x16_1).f0))) (fun _ hk => hk.2) (.int .i64 ((rd_T53 t140 x16_1).f1))) (fun _ hk => trivial))); (case aS => exact (below_size (by repeat (first | (with_reducible first | exact HB.out | apply below_alloc | apply pw_below_drewN | apply below_drew1 | refine below_set ?_ GE139.out | refine below_set ?_ GE144.out) | exact HB.out)))); (case aL => have := LMc12.out; omega); intro v149 w17 ho hb hg hat; rw [← Ny148.out] at ho; have n0_ := Aside0.mk (Kd.V_afterv (ok := (fun k_ => k_ ≠ gb139 ∧ k_ ≠ gb144)) (by (with_reducible repeat (first | apply Kd.V_alloc | apply Kd.V_drewN | apply Kd.V_drew)); exact Kd.V_mono (Kd.V_far (p := ⟨gb144, 1, none⟩) (Kd.V_far (p := ⟨gb144, 0, none⟩) (Kd.V_mono HO_5.out (fun k_ hk => (⟨hk, hk.2⟩ : _ ∧ k_ ≠ gb144))) (fun _ hk => hk.2) (.int .i64 ((rd_T53 t140 x16_1).f0))) (fun _ hk => hk.2) (.int .i64 ((rd_T53 t140 x16_1).f1))) (fun _ hk => ⟨⟨hk.1.1.2, hk.1.2⟩, hk.1.1.1⟩)) hg hat); have n1_ := Aside0.mk (Kd.V_afterv (ok := (fun k_ => k_ ≠ gb139 ∧ k_ ≠ gb144)) (by (with_reducible repeat (first | apply Kd.V_alloc | apply Kd.V_drewN | apply Kd.V_drew)); exact Kd.V_mono (Kd.V_far (p := ⟨gb144, 1, none⟩) (Kd.V_far (p := ⟨gb144, 0, none⟩) (Kd.V_mono HO_14.out (fun k_ hk => (⟨hk, hk.2⟩ : _ ∧ k_ ≠ gb144))) (fun _ hk => hk.2) (.int .i64 ((rd_T53 t140 x16_1).f0))) (fun _ hk => hk.2) (.int .i64 ((rd_T53 t140 x16_1).f1))) (fun _ hk => ⟨⟨hk.1.1.2, hk.1.2⟩, hk.1.1.1⟩)) hg hat); have n2_ := Aside0.mk (blk_grown (g := gb139) (o := .cells #[u140000, .bool x140001_1, .int .i64 x140002_1] 44 (0, 0)) (by (with_reducible repeat (first | refine blk_drewN ?_ _ | refine blk_drew ?_ | refine blk_alloc ?_ _)); refine blk_far ?_ NB139_144.out _; (with_reducible repeat (first | refine blk_drewN ?_ _ | refine blk_drew ?_ | refine blk_alloc ?_ _)); refine blk_far ?_ NB139_144.out _; (with_reducible repeat (first | refine blk_drewN ?_ _ | refine blk_drew ?_ | refine blk_alloc ?_ _)); exact BK139.out) hg (Kd.R_ne HO_140000.out BK139.out (by decide))); have n3_ := Aside0.mk (blk_grown (g := gb144) (o := .cells #[.int .i64 ((rd_T53 t140 x16_1).f0), .int .i64 ((rd_T53 t140 x16_1).f1)] 53 (0, 0)) (by (with_reducible repeat (first | refine blk_drewN ?_ _ | refine blk_drew ?_ | refine blk_alloc ?_ _)); refine blk_put (cs := #[.int .i64 ((rd_T53 t140 x16_1).f0), .int .i64 0]) ?_ 1 _ rfl; (with_reducible repeat (first | refine blk_drewN ?_ _ | refine blk_drew ?_ | refine blk_alloc ?_ _)); refine blk_put (cs := #[.int .i64 0, .int .i64 0]) ?_ 0 _ rfl; (with_reducible repeat (first | refine blk_drewN ?_ _ | refine blk_drew ?_ | refine blk_alloc ?_ _)); exact BK144.out) hg (Kd.R_ne HO_140000.out BK144.out (by decide))); have n4_ := Aside0.mk (hb); have n5_ := Aside0.mk (ho); clear HO_5; clear HO_14; clear BK139; clear BK144; clear HB; clear HO_140000; have HO_5 := n0_; have HO_14 := n1_; have BK139 := n2_; have BK144 := n3_; have HB := n4_; have HO150 := n5_; clear n0_ n1_ n2_ n3_ n4_ n5_; clear ho hb hg hat; obtain ⟨Ao18, co18, eo18⟩ := Kd.R_slice HO150.out; subst eo18; have hcz19_0 := bc BK139 0; have hcz19_1 := bc BK139 1; have hcz19_2 := bc BK139 2; have hfz19_0 := bf BK139 0; have hfz19_1 := bf BK139 1; have hfz19_2 := bf BK139 2; have hcz20_0 := bc BK144 0; have hcz20_1 := bc BK144 1; have hfz20_0 := bf BK144 0; have hfz20_1 := bf BK144 1))
        go_roundg k1
        case measure => have := HK1.out; omega
        case rel => exact ⟨((rd_T53 t140 x16_1).f1), (wrap64 (x16_1 + 1)), (y148), (x140001_1), (x140002_1), (.slice Ao18 y148.length co18), pr, pr, H', ⟨by have := HK1.out; omega⟩, ⟨by (with_reducible repeat (first | apply Kd.V_alloc | apply Kd.V_drewN | apply Kd.V_drew)); exact Kd.V_mono (Kd.V_far (p := ⟨gb139, 0, none⟩) (Kd.V_mono HO_5.out (fun k_ hk => (⟨hk, hk.1.1⟩ : _ ∧ k_ ≠ gb139))) (fun _ hk => hk.2) (.slice Ao18 y148.length co18)) (fun _ hk => ⟨hk.1.2, hk.1.1.1⟩)⟩, ⟨by (with_reducible repeat (first | apply Kd.V_alloc | apply Kd.V_drewN | apply Kd.V_drew)); exact Kd.V_mono (Kd.V_far (p := ⟨gb139, 0, none⟩) (Kd.V_mono HO_14.out (fun k_ hk => (⟨hk, hk.1.1⟩ : _ ∧ k_ ≠ gb139))) (fun _ hk => hk.2) (.slice Ao18 y148.length co18)) (fun _ hk => ⟨hk.1.2, hk.1.1.1⟩)⟩, ⟨by (with_reducible repeat (first | apply Kd.R_alloc | apply Kd.R_drewN | apply Kd.R_drew)); exact Kd.R_mono (Kd.R_far (p := ⟨gb139, 0, none⟩) (Kd.R_types HO150.out BK139.out (by decide)) (fun _ hk => hk.2) (.slice Ao18 y148.length co18)) (fun _ hk => trivial)⟩, ⟨by (with_reducible repeat (first | refine blk_drewN ?_ _ | refine blk_drew ?_ | refine blk_alloc ?_ _)); refine blk_put (cs := #[u140000, .bool x140001_1, .int .i64 x140002_1]) ?_ 0 _ rfl; (with_reducible repeat (first | refine blk_drewN ?_ _ | refine blk_drew ?_ | refine blk_alloc ?_ _)); exact BK139.out⟩, ba HB⟩
       ·rw [if_neg c12] at H
        exact absurd H (by simp)
      ·rw [if_neg c11] at H
       have c11b0 : (t146 == 0) = false := beq_eq_false_iff_ne.mpr c11
       have c11b1 : (t146 != 0) = true := bne_iff_ne.mpr c11
       simp only [Option.some.injEq, Prod.mk.injEq] at H
       obtain ⟨rfl, rfl, rfl, rfl⟩ := H
       have p143 : 0 ≤ (x16_1 : Int) := pa
       have q143 : x16_1 < (t140.length : Int) := pa
       obtain ⟨ad143, e143, hx143_0, hx143_1⟩ := at_T53 (Kd.V_reads' HO_14.out).2.2 x16_1 p143 q143
       cases e143
       replace p143 := eq_true p143
       replace q143 := eq_true q143
       go_wp2_with (first | (refine bx 7 #[.int .i64 0, .int .i64 0] 53 ?_; intro gb144 hg w21 hbox hb; have n0_ := Aside0.mk (Kd.V_below (Kd.V_elderB (by (with_reducible repeat (first | apply Kd.V_alloc | apply Kd.V_drewN | apply Kd.V_drew)); exact HO_5.out) gb144 (Nat.le_of_eq hg.symm)) hb); have n1_ := Aside0.mk (Kd.V_below (Kd.V_elderB (by (with_reducible repeat (first | apply Kd.V_alloc | apply Kd.V_drewN | apply Kd.V_drew)); exact HO_14.out) gb144 (Nat.le_of_eq hg.symm)) hb); have n5_ := Aside0.mk (hbox); have GW144 := gw HB hg; have GE144 := gw HB hg; have NB139_144 := nl BK139 hg; have NB144_139 := nr BK139 hg; replace HO_140000 := rb HO_140000 hb; replace BK139 := kb BK139 hb; replace HB := bs HB hb; clear HO_5; clear HO_14; have HO_5 := n0_; have HO_14 := n1_; have BK144 := n5_; clear n0_ n1_ n5_; clear hb hbox hg; have hnb22 := NB144_139.out; have hnc22 := NB139_144.out; have hcz23_0 := bc BK144 0; have hcz23_1 := bc BK144 1; have hfz23_0 := bf BK144 0; have hfz23_1 := bf BK144 1) | ((with_reducible refine gate_callee (f := 57) rfl ?_); refine goesL_ (some 32) rfl rfl Try.func57 (by kernel_rfl) rfl #[.int .i64 (wrap64 ((wrap64 (((rd_T53 t140 x16_1).f0) - x4_1)) - (ji9))), .int .i64 86400] rfl (by (try simp only [List.map_toArray, List.map_cons, List.map_nil]); first | done | (simp only [hji9]; rfl) | rfl | (simp only [List.length_drop, List.length_take]; rfl)) ?_; (with_reducible refine (num_Div.calls (wrap64 ((wrap64 (((rd_T53 t140 x16_1).f0) - x4_1)) - (ji9))) 86400 t145 t146 t147 _ A10.out).mono ?_); rintro e w' ⟨rfl, ⟨nd, rfl⟩⟩; refine ⟨_, rfl, ?_⟩; have hcz24_0 := bc BK139 0; have hcz24_1 := bc BK139 1; have hcz24_2 := bc BK139 2; have hfz24_0 := bf BK139 0; have hfz24_1 := bf BK139 1; have hfz24_2 := bf BK139 2))
       refine bodyPost_ret (results_ct rfl _ _ gb139 44 #[.slice none 0 0, .bool false, .int .i64 0] (0, 0) _ rfl (by (with_reducible repeat (first | refine blk_drewN ?_ _ | refine blk_drew ?_ | refine blk_alloc ?_ _)); refine blk_put (cs := #[.slice none 0 0, .bool false, .int .i64 x140002_1]) ?_ 2 _ rfl; (with_reducible repeat (first | refine blk_drewN ?_ _ | refine blk_drew ?_ | refine blk_alloc ?_ _)); refine blk_put (cs := #[.slice none 0 0, .bool x140001_1, .int .i64 x140002_1]) ?_ 1 _ rfl; (with_reducible repeat (first | refine blk_drewN ?_ _ | refine blk_drew ?_ | refine blk_alloc ?_ _)); refine blk_put (cs := #[u140000, .bool x140001_1, .int .i64 x140002_1]) ?_ 0 _ rfl; (with_reducible repeat (first | refine blk_drewN ?_ _ | refine blk_drew ?_ | refine blk_alloc ?_ _)); refine blk_far ?_ NB139_144.out _; (with_reducible repeat (first | refine blk_drewN ?_ _ | refine blk_drew ?_ | refine blk_alloc ?_ _)); refine blk_far ?_ NB139_144.out _; (with_reducible repeat (first | refine blk_drewN ?_ _ | refine blk_drew ?_ | refine blk_alloc ?_ _)); exact BK139.out) Try.underlying44 rfl (by kernel_rfl)) rfl ?_
       exact ⟨_, by first | rfl | (simp [errW_none, errW_some] <;> rfl) | (simp only [← hji9]; first | rfl | (simp [errW_none, errW_some] <;> rfl)) | (simp [*, errW_none, errW_some] <;> rfl), by first | exact Kd.R_nil _ _ _ _ _ | exact Kd.N_nil _ _ _ _ _ | exact Kd.V_nil _ _ _ _ _ | exact Kd.Q_nil _ _ _ _ _ | exact Kd.S_nil _ _ _ _ _, by repeat (first | (with_reducible first | exact HB.out | apply below_alloc | apply pw_below_drewN | apply below_drew1 | refine below_set ?_ GE139.out | refine below_set ?_ GE144.out) | exact HB.out)⟩
     ·rw [if_neg c8] at H
      exact absurd H (by simp)
    ·rw [if_neg c7] at H
     exact absurd H (by simp)
   ·rw [if_neg c6] at H
    have c6b0 : decide (x16_1 < (t140.length : Int)) = false := decide_eq_false c6
    clear c6
    by_cases c25 : (t140.length : Int) < (l0.length : Int)
    ·rw [if_pos c25] at H
     have c25b0 : decide ((t140.length : Int) < (l0.length : Int)) = true := decide_eq_true c25
     (try rw [c25b0] at H)
     have c25b1 : decide (t140.length < l0.length) = true := decide_eq_true (Int.ofNat_lt.mp c25)
     clear c25
     by_cases c26 : 0 ≤ (t140.length : Int)
     ·rw [if_pos c26] at H
      have c26b0 : decide (0 ≤ (t140.length : Int)) = true := decide_eq_true c26
      have c26b1 : decide (0 ≤ t140.length) = true := decide_eq_true (by omega)
      clear c26
      obtain ⟨t152, A27, H⟩ := bnd H
      try dsimp only at H
      by_cases c28 : t152 = true
      ·subst c28
       rw [if_pos rfl] at H
       simp only [Option.some.injEq, Prod.mk.injEq] at H
       obtain ⟨rfl, rfl, rfl, rfl⟩ := H
       have hcz29_0 := bc BK139 0
       have hcz29_1 := bc BK139 1
       have hcz29_2 := bc BK139 2
       have hfz29_0 := bf BK139 0
       have hfz29_1 := bf BK139 1
       have hfz29_2 := bf BK139 2
       have p151 : 0 ≤ ((t140.length : Int) : Int) := pa
       have q151 : (t140.length : Int) < (l0.length : Int) := pa
       obtain ⟨ad151, e151, hx151_0, hx151_1⟩ := at_T53 HR0.out (t140.length : Int) p151 q151
       cases e151
       have hn151_0 : ad151.block ≠ gb139 := Nat.ne_of_lt (Nat.lt_of_lt_of_le (by have := World.block_lt_of_cell? _ _ hx151_0; first | rwa [add_block] at this | exact this) GW139.out)
       replace hx151_0 := hx HB hx151_0
       replace hx151_1 := hx HB hx151_1
       replace hx151_0 := (cell_far (p := ⟨gb139, 1, none⟩) (by first | (rw [add_block]; exact hn151_0) | (show (Addr.add _ _).block ≠ _; rw [add_block]; exact hn151_0) | exact hn151_0) (.bool true)).trans hx151_0
       replace hx151_1 := (cell_far (p := ⟨gb139, 1, none⟩) (by first | (rw [add_block]; exact hn151_0) | (show (Addr.add _ _).block ≠ _; rw [add_block]; exact hn151_0) | exact hn151_0) (.bool true)).trans hx151_1
       clear hn151_0
       (try simp only [Go.IntWalk.toNatUp] at hx151_0)
       (try simp only [Go.IntWalk.toNatUp] at hx151_1)
       replace p151 := eq_true p151
       replace q151 := eq_true q151
       obtain ⟨Ao30, co30, eo30⟩ := Kd.R_slice HO_140000.out
       subst eo30
       go_wp2_with (first | (refine gM (some 69) Try.func62 #[.agg #[.slice Ao30 x140000_1.length co30, .bool true, .int .i64 (wrap64 (((rd_T53 l0 (t140.length : Int)).f0) - x4_1))]] (leap_Right.calls k1 _ _ x140000_1 true (wrap64 (((rd_T53 l0 (t140.length : Int)).f0) - x4_1)) true _ ?side1 ?side2 A27.out) ?_; (case side1 => refine (Kd.R_reads' (e := 49) (base := w.heap.size) (ok := fun k_ => True) (n := x140000_1.length) (c := co30) ?_).2.2; exact (by (with_reducible repeat (first | apply Kd.R_alloc | apply Kd.R_drewN | apply Kd.R_drew)); exact (Kd.R_mono (Kd.R_far (p := ⟨gb139, 2, none⟩) (Kd.R_far (p := ⟨gb139, 1, none⟩) (Kd.R_types HO_140000.out BK139.out (by decide)) (fun _ hk => hk.2) (.bool true)) (fun _ hk => hk.2) (.int .i64 (wrap64 (((rd_T53 l0 (t140.length : Int)).f0) - x4_1)))) (fun _ h_ => h_.1)))); (case side2 => exact (Kd.R_reads' HO_140000.out).2.1); intro w31 hb; have n0_ := Aside0.mk (Kd.V_below (by (with_reducible repeat (first | apply Kd.V_alloc | apply Kd.V_drewN | apply Kd.V_drew)); exact (Kd.V_mono (Kd.V_far (p := ⟨gb139, 2, none⟩) (Kd.V_far (p := ⟨gb139, 1, none⟩) (Kd.V_mono HO_5.out (fun k_ hk => (⟨hk, hk.2⟩ : _ ∧ k_ ≠ gb139))) (fun _ hk => hk.2) (.bool true)) (fun _ hk => hk.2) (.int .i64 (wrap64 (((rd_T53 l0 (t140.length : Int)).f0) - x4_1)))) (fun _ h_ => h_.1))) hb); have n1_ := Aside0.mk (Kd.V_below (by (with_reducible repeat (first | apply Kd.V_alloc | apply Kd.V_drewN | apply Kd.V_drew)); exact (Kd.V_mono (Kd.V_far (p := ⟨gb139, 2, none⟩) (Kd.V_far (p := ⟨gb139, 1, none⟩) (Kd.V_mono HO_14.out (fun k_ hk => (⟨hk, hk.2⟩ : _ ∧ k_ ≠ gb139))) (fun _ hk => hk.2) (.bool true)) (fun _ hk => hk.2) (.int .i64 (wrap64 (((rd_T53 l0 (t140.length : Int)).f0) - x4_1)))) (fun _ h_ => h_.1))) hb); have n2_ := Aside0.mk (Kd.R_below (by (with_reducible repeat (first | apply Kd.R_alloc | apply Kd.R_drewN | apply Kd.R_drew)); exact (Kd.R_mono (Kd.R_far (p := ⟨gb139, 2, none⟩) (Kd.R_far (p := ⟨gb139, 1, none⟩) (Kd.R_types HO_140000.out BK139.out (by decide)) (fun _ hk => hk.2) (.bool true)) (fun _ hk => hk.2) (.int .i64 (wrap64 (((rd_T53 l0 (t140.length : Int)).f0) - x4_1)))) (fun _ h_ => h_.1))) hb); have n3_ := Aside0.mk (blk_below (g := gb139) (o := .cells #[.slice Ao30 x140000_1.length co30, .bool true, .int .i64 (wrap64 (((rd_T53 l0 (t140.length : Int)).f0) - x4_1))] 44 (0, 0)) (by (with_reducible repeat (first | refine blk_drewN ?_ _ | refine blk_drew ?_ | refine blk_alloc ?_ _)); refine blk_put (cs := #[.slice Ao30 x140000_1.length co30, .bool true, .int .i64 x140002_1]) ?_ 2 _ rfl; (with_reducible repeat (first | refine blk_drewN ?_ _ | refine blk_drew ?_ | refine blk_alloc ?_ _)); refine blk_put (cs := #[.slice Ao30 x140000_1.length co30, .bool x140001_1, .int .i64 x140002_1]) ?_ 1 _ rfl; (with_reducible repeat (first | refine blk_drewN ?_ _ | refine blk_drew ?_ | refine blk_alloc ?_ _)); exact BK139.out) hb); replace HB := bs HB hb; clear HO_5; clear HO_14; clear HO_140000; clear BK139; have HO_5 := n0_; have HO_14 := n1_; have HO_140000 := n2_; have BK139 := n3_; clear n0_ n1_ n2_ n3_; (try clear hb); (try clear hb2); (try clear hk); (try clear hi); have hcz32_0 := bc BK139 0; have hcz32_1 := bc BK139 1; have hcz32_2 := bc BK139 2; have hfz32_0 := bf BK139 0; have hfz32_1 := bf BK139 1; have hfz32_2 := bf BK139 2))
       refine bodyPost_ret (results_ct rfl _ _ gb139 44 #[.slice Ao30 x140000_1.length co30, .bool true, .int .i64 (wrap64 (((rd_T53 l0 (t140.length : Int)).f0) - x4_1))] (0, 0) _ rfl (by (with_reducible repeat (first | refine blk_drewN ?_ _ | refine blk_drew ?_ | refine blk_alloc ?_ _)); refine blk_put (cs := #[.slice Ao30 x140000_1.length co30, .bool true, .int .i64 (wrap64 (((rd_T53 l0 (t140.length : Int)).f0) - x4_1))]) ?_ 2 _ rfl; (with_reducible repeat (first | refine blk_drewN ?_ _ | refine blk_drew ?_ | refine blk_alloc ?_ _)); refine blk_put (cs := #[.slice Ao30 x140000_1.length co30, .bool true, .int .i64 (wrap64 (((rd_T53 l0 (t140.length : Int)).f0) - x4_1))]) ?_ 1 _ rfl; (with_reducible repeat (first | refine blk_drewN ?_ _ | refine blk_drew ?_ | refine blk_alloc ?_ _)); refine blk_put (cs := #[.slice Ao30 x140000_1.length co30, .bool true, .int .i64 (wrap64 (((rd_T53 l0 (t140.length : Int)).f0) - x4_1))]) ?_ 0 _ rfl; (with_reducible repeat (first | refine blk_drewN ?_ _ | refine blk_drew ?_ | refine blk_alloc ?_ _)); exact BK139.out) Try.underlying44 rfl (by kernel_rfl)) rfl ?_
       exact ⟨_, by first | rfl | (simp [errW_none, errW_some] <;> rfl) | (simp [*, errW_none, errW_some] <;> rfl), by (with_reducible repeat (first | apply Kd.R_alloc | apply Kd.R_drewN | apply Kd.R_drew)); exact Kd.R_mono (Kd.R_far (p := ⟨gb139, 2, none⟩) (Kd.R_far (p := ⟨gb139, 1, none⟩) (Kd.R_far (p := ⟨gb139, 0, none⟩) (Kd.R_types HO_140000.out BK139.out (by decide)) (fun _ hk => hk.2) (.slice Ao30 x140000_1.length co30)) (fun _ hk => hk.2) (.bool true)) (fun _ hk => hk.2) (.int .i64 (wrap64 (((rd_T53 l0 (t140.length : Int)).f0) - x4_1)))) (fun _ hk => trivial), by repeat (first | (with_reducible first | exact HB.out | apply below_alloc | apply pw_below_drewN | apply below_drew1 | refine below_set ?_ GE139.out) | exact HB.out)⟩
      ·replace c28 := Bool.eq_false_iff.mpr c28
       subst c28
       rw [if_neg (show ¬ (false = true) by decide)] at H
       simp only [Option.some.injEq, Prod.mk.injEq] at H
       obtain ⟨rfl, rfl, rfl, rfl⟩ := H
       have hcz33_0 := bc BK139 0
       have hcz33_1 := bc BK139 1
       have hcz33_2 := bc BK139 2
       have hfz33_0 := bf BK139 0
       have hfz33_1 := bf BK139 1
       have hfz33_2 := bf BK139 2
       have p151 : 0 ≤ ((t140.length : Int) : Int) := pa
       have q151 : (t140.length : Int) < (l0.length : Int) := pa
       obtain ⟨ad151, e151, hx151_0, hx151_1⟩ := at_T53 HR0.out (t140.length : Int) p151 q151
       cases e151
       have hn151_0 : ad151.block ≠ gb139 := Nat.ne_of_lt (Nat.lt_of_lt_of_le (by have := World.block_lt_of_cell? _ _ hx151_0; first | rwa [add_block] at this | exact this) GW139.out)
       replace hx151_0 := hx HB hx151_0
       replace hx151_1 := hx HB hx151_1
       replace hx151_0 := (cell_far (p := ⟨gb139, 1, none⟩) (by first | (rw [add_block]; exact hn151_0) | (show (Addr.add _ _).block ≠ _; rw [add_block]; exact hn151_0) | exact hn151_0) (.bool true)).trans hx151_0
       replace hx151_1 := (cell_far (p := ⟨gb139, 1, none⟩) (by first | (rw [add_block]; exact hn151_0) | (show (Addr.add _ _).block ≠ _; rw [add_block]; exact hn151_0) | exact hn151_0) (.bool true)).trans hx151_1
       clear hn151_0
       (try simp only [Go.IntWalk.toNatUp] at hx151_0)
       (try simp only [Go.IntWalk.toNatUp] at hx151_1)
       replace p151 := eq_true p151
       replace q151 := eq_true q151
       obtain ⟨Ao34, co34, eo34⟩ := Kd.R_slice HO_140000.out
       subst eo34
       go_wp2_with (first | (refine gM (some 69) Try.func62 #[.agg #[.slice Ao34 x140000_1.length co34, .bool true, .int .i64 (wrap64 (((rd_T53 l0 (t140.length : Int)).f0) - x4_1))]] (leap_Right.calls k1 _ _ x140000_1 true (wrap64 (((rd_T53 l0 (t140.length : Int)).f0) - x4_1)) false _ ?side1 ?side2 A27.out) ?_; (case side1 => refine (Kd.R_reads' (e := 49) (base := w.heap.size) (ok := fun k_ => True) (n := x140000_1.length) (c := co34) ?_).2.2; exact (by (with_reducible repeat (first | apply Kd.R_alloc | apply Kd.R_drewN | apply Kd.R_drew)); exact (Kd.R_mono (Kd.R_far (p := ⟨gb139, 2, none⟩) (Kd.R_far (p := ⟨gb139, 1, none⟩) (Kd.R_types HO_140000.out BK139.out (by decide)) (fun _ hk => hk.2) (.bool true)) (fun _ hk => hk.2) (.int .i64 (wrap64 (((rd_T53 l0 (t140.length : Int)).f0) - x4_1)))) (fun _ h_ => h_.1)))); (case side2 => exact (Kd.R_reads' HO_140000.out).2.1); intro w35 hb; have n0_ := Aside0.mk (Kd.V_below (by (with_reducible repeat (first | apply Kd.V_alloc | apply Kd.V_drewN | apply Kd.V_drew)); exact (Kd.V_mono (Kd.V_far (p := ⟨gb139, 2, none⟩) (Kd.V_far (p := ⟨gb139, 1, none⟩) (Kd.V_mono HO_5.out (fun k_ hk => (⟨hk, hk.2⟩ : _ ∧ k_ ≠ gb139))) (fun _ hk => hk.2) (.bool true)) (fun _ hk => hk.2) (.int .i64 (wrap64 (((rd_T53 l0 (t140.length : Int)).f0) - x4_1)))) (fun _ h_ => h_.1))) hb); have n1_ := Aside0.mk (Kd.V_below (by (with_reducible repeat (first | apply Kd.V_alloc | apply Kd.V_drewN | apply Kd.V_drew)); exact (Kd.V_mono (Kd.V_far (p := ⟨gb139, 2, none⟩) (Kd.V_far (p := ⟨gb139, 1, none⟩) (Kd.V_mono HO_14.out (fun k_ hk => (⟨hk, hk.2⟩ : _ ∧ k_ ≠ gb139))) (fun _ hk => hk.2) (.bool true)) (fun _ hk => hk.2) (.int .i64 (wrap64 (((rd_T53 l0 (t140.length : Int)).f0) - x4_1)))) (fun _ h_ => h_.1))) hb); have n2_ := Aside0.mk (Kd.R_below (by (with_reducible repeat (first | apply Kd.R_alloc | apply Kd.R_drewN | apply Kd.R_drew)); exact (Kd.R_mono (Kd.R_far (p := ⟨gb139, 2, none⟩) (Kd.R_far (p := ⟨gb139, 1, none⟩) (Kd.R_types HO_140000.out BK139.out (by decide)) (fun _ hk => hk.2) (.bool true)) (fun _ hk => hk.2) (.int .i64 (wrap64 (((rd_T53 l0 (t140.length : Int)).f0) - x4_1)))) (fun _ h_ => h_.1))) hb); have n3_ := Aside0.mk (blk_below (g := gb139) (o := .cells #[.slice Ao34 x140000_1.length co34, .bool true, .int .i64 (wrap64 (((rd_T53 l0 (t140.length : Int)).f0) - x4_1))] 44 (0, 0)) (by (with_reducible repeat (first | refine blk_drewN ?_ _ | refine blk_drew ?_ | refine blk_alloc ?_ _)); refine blk_put (cs := #[.slice Ao34 x140000_1.length co34, .bool true, .int .i64 x140002_1]) ?_ 2 _ rfl; (with_reducible repeat (first | refine blk_drewN ?_ _ | refine blk_drew ?_ | refine blk_alloc ?_ _)); refine blk_put (cs := #[.slice Ao34 x140000_1.length co34, .bool x140001_1, .int .i64 x140002_1]) ?_ 1 _ rfl; (with_reducible repeat (first | refine blk_drewN ?_ _ | refine blk_drew ?_ | refine blk_alloc ?_ _)); exact BK139.out) hb); replace HB := bs HB hb; clear HO_5; clear HO_14; clear HO_140000; clear BK139; have HO_5 := n0_; have HO_14 := n1_; have HO_140000 := n2_; have BK139 := n3_; clear n0_ n1_ n2_ n3_; (try clear hb); (try clear hb2); (try clear hk); (try clear hi); have hcz36_0 := bc BK139 0; have hcz36_1 := bc BK139 1; have hcz36_2 := bc BK139 2; have hfz36_0 := bf BK139 0; have hfz36_1 := bf BK139 1; have hfz36_2 := bf BK139 2))
       refine bodyPost_ret (results_ct rfl _ _ gb139 44 #[.slice none 0 0, .bool false, .int .i64 0] (0, 0) _ rfl (by (with_reducible repeat (first | refine blk_drewN ?_ _ | refine blk_drew ?_ | refine blk_alloc ?_ _)); refine blk_put (cs := #[.slice none 0 0, .bool false, .int .i64 (wrap64 (((rd_T53 l0 (t140.length : Int)).f0) - x4_1))]) ?_ 2 _ rfl; (with_reducible repeat (first | refine blk_drewN ?_ _ | refine blk_drew ?_ | refine blk_alloc ?_ _)); refine blk_put (cs := #[.slice none 0 0, .bool true, .int .i64 (wrap64 (((rd_T53 l0 (t140.length : Int)).f0) - x4_1))]) ?_ 1 _ rfl; (with_reducible repeat (first | refine blk_drewN ?_ _ | refine blk_drew ?_ | refine blk_alloc ?_ _)); refine blk_put (cs := #[.slice Ao34 x140000_1.length co34, .bool true, .int .i64 (wrap64 (((rd_T53 l0 (t140.length : Int)).f0) - x4_1))]) ?_ 0 _ rfl; (with_reducible repeat (first | refine blk_drewN ?_ _ | refine blk_drew ?_ | refine blk_alloc ?_ _)); exact BK139.out) Try.underlying44 rfl (by kernel_rfl)) rfl ?_
       exact ⟨_, by first | rfl | (simp [errW_none, errW_some] <;> rfl) | (simp [*, errW_none, errW_some] <;> rfl), by first | exact Kd.R_nil _ _ _ _ _ | exact Kd.N_nil _ _ _ _ _ | exact Kd.V_nil _ _ _ _ _ | exact Kd.Q_nil _ _ _ _ _ | exact Kd.S_nil _ _ _ _ _, by repeat (first | (with_reducible first | exact HB.out | apply below_alloc | apply pw_below_drewN | apply below_drew1 | refine below_set ?_ GE139.out) | exact HB.out)⟩
     ·rw [if_neg c26] at H
      exact absurd H (by simp)
    ·rw [if_neg c25] at H
     have c25b0 : decide ((t140.length : Int) < (l0.length : Int)) = false := decide_eq_false c25
     (try rw [c25b0] at H)
     have c25b1 : decide (t140.length < l0.length) = false := decide_eq_false (fun h => c25 (Int.ofNat_lt.mpr h))
     clear c25
     obtain ⟨t153, A37, H⟩ := bnd H
     try dsimp only at H
     by_cases c38 : t153 = true
     ·subst c38
      rw [if_pos rfl] at H
      simp only [Option.some.injEq, Prod.mk.injEq] at H
      obtain ⟨rfl, rfl, rfl, rfl⟩ := H
      have hcz39_0 := bc BK139 0
      have hcz39_1 := bc BK139 1
      have hcz39_2 := bc BK139 2
      have hfz39_0 := bf BK139 0
      have hfz39_1 := bf BK139 1
      have hfz39_2 := bf BK139 2
      obtain ⟨Ao40, co40, eo40⟩ := Kd.R_slice HO_140000.out
      subst eo40
      go_wp2_with (first | (refine gM (some 69) Try.func62 #[.agg #[.slice Ao40 x140000_1.length co40, .bool false, .int .i64 x140002_1]] (leap_Right.calls k1 _ _ x140000_1 false x140002_1 true _ ?side1 ?side2 A37.out) ?_; (case side1 => refine (Kd.R_reads' (e := 49) (base := w.heap.size) (ok := fun k_ => True) (n := x140000_1.length) (c := co40) ?_).2.2; exact (by (with_reducible repeat (first | apply Kd.R_alloc | apply Kd.R_drewN | apply Kd.R_drew)); exact (Kd.R_mono (Kd.R_far (p := ⟨gb139, 1, none⟩) (Kd.R_types HO_140000.out BK139.out (by decide)) (fun _ hk => hk.2) (.bool false)) (fun _ h_ => h_.1)))); (case side2 => exact (Kd.R_reads' HO_140000.out).2.1); intro w41 hb; have n0_ := Aside0.mk (Kd.V_below (by (with_reducible repeat (first | apply Kd.V_alloc | apply Kd.V_drewN | apply Kd.V_drew)); exact (Kd.V_mono (Kd.V_far (p := ⟨gb139, 1, none⟩) (Kd.V_mono HO_5.out (fun k_ hk => (⟨hk, hk.2⟩ : _ ∧ k_ ≠ gb139))) (fun _ hk => hk.2) (.bool false)) (fun _ h_ => h_.1))) hb); have n1_ := Aside0.mk (Kd.V_below (by (with_reducible repeat (first | apply Kd.V_alloc | apply Kd.V_drewN | apply Kd.V_drew)); exact (Kd.V_mono (Kd.V_far (p := ⟨gb139, 1, none⟩) (Kd.V_mono HO_14.out (fun k_ hk => (⟨hk, hk.2⟩ : _ ∧ k_ ≠ gb139))) (fun _ hk => hk.2) (.bool false)) (fun _ h_ => h_.1))) hb); have n2_ := Aside0.mk (Kd.R_below (by (with_reducible repeat (first | apply Kd.R_alloc | apply Kd.R_drewN | apply Kd.R_drew)); exact (Kd.R_mono (Kd.R_far (p := ⟨gb139, 1, none⟩) (Kd.R_types HO_140000.out BK139.out (by decide)) (fun _ hk => hk.2) (.bool false)) (fun _ h_ => h_.1))) hb); have n3_ := Aside0.mk (blk_below (g := gb139) (o := .cells #[.slice Ao40 x140000_1.length co40, .bool false, .int .i64 x140002_1] 44 (0, 0)) (by (with_reducible repeat (first | refine blk_drewN ?_ _ | refine blk_drew ?_ | refine blk_alloc ?_ _)); refine blk_put (cs := #[.slice Ao40 x140000_1.length co40, .bool x140001_1, .int .i64 x140002_1]) ?_ 1 _ rfl; (with_reducible repeat (first | refine blk_drewN ?_ _ | refine blk_drew ?_ | refine blk_alloc ?_ _)); exact BK139.out) hb); replace HB := bs HB hb; clear HO_5; clear HO_14; clear HO_140000; clear BK139; have HO_5 := n0_; have HO_14 := n1_; have HO_140000 := n2_; have BK139 := n3_; clear n0_ n1_ n2_ n3_; (try clear hb); (try clear hb2); (try clear hk); (try clear hi); have hcz42_0 := bc BK139 0; have hcz42_1 := bc BK139 1; have hcz42_2 := bc BK139 2; have hfz42_0 := bf BK139 0; have hfz42_1 := bf BK139 1; have hfz42_2 := bf BK139 2))
      refine bodyPost_ret (results_ct rfl _ _ gb139 44 #[.slice Ao40 x140000_1.length co40, .bool false, .int .i64 x140002_1] (0, 0) _ rfl (by (with_reducible repeat (first | refine blk_drewN ?_ _ | refine blk_drew ?_ | refine blk_alloc ?_ _)); refine blk_put (cs := #[.slice Ao40 x140000_1.length co40, .bool false, .int .i64 x140002_1]) ?_ 2 _ rfl; (with_reducible repeat (first | refine blk_drewN ?_ _ | refine blk_drew ?_ | refine blk_alloc ?_ _)); refine blk_put (cs := #[.slice Ao40 x140000_1.length co40, .bool false, .int .i64 x140002_1]) ?_ 1 _ rfl; (with_reducible repeat (first | refine blk_drewN ?_ _ | refine blk_drew ?_ | refine blk_alloc ?_ _)); refine blk_put (cs := #[.slice Ao40 x140000_1.length co40, .bool false, .int .i64 x140002_1]) ?_ 0 _ rfl; (with_reducible repeat (first | refine blk_drewN ?_ _ | refine blk_drew ?_ | refine blk_alloc ?_ _)); exact BK139.out) Try.underlying44 rfl (by kernel_rfl)) rfl ?_
      exact ⟨_, by first | rfl | (simp [errW_none, errW_some] <;> rfl) | (simp [*, errW_none, errW_some] <;> rfl), by (with_reducible repeat (first | apply Kd.R_alloc | apply Kd.R_drewN | apply Kd.R_drew)); exact Kd.R_mono (Kd.R_far (p := ⟨gb139, 2, none⟩) (Kd.R_far (p := ⟨gb139, 1, none⟩) (Kd.R_far (p := ⟨gb139, 0, none⟩) (Kd.R_types HO_140000.out BK139.out (by decide)) (fun _ hk => hk.2) (.slice Ao40 x140000_1.length co40)) (fun _ hk => hk.2) (.bool false)) (fun _ hk => hk.2) (.int .i64 x140002_1)) (fun _ hk => trivial), by repeat (first | (with_reducible first | exact HB.out | apply below_alloc | apply pw_below_drewN | apply below_drew1 | refine below_set ?_ GE139.out) | exact HB.out)⟩
     ·replace c38 := Bool.eq_false_iff.mpr c38
      subst c38
      rw [if_neg (show ¬ (false = true) by decide)] at H
      simp only [Option.some.injEq, Prod.mk.injEq] at H
      obtain ⟨rfl, rfl, rfl, rfl⟩ := H
      have hcz43_0 := bc BK139 0
      have hcz43_1 := bc BK139 1
      have hcz43_2 := bc BK139 2
      have hfz43_0 := bf BK139 0
      have hfz43_1 := bf BK139 1
      have hfz43_2 := bf BK139 2
      obtain ⟨Ao44, co44, eo44⟩ := Kd.R_slice HO_140000.out
      subst eo44
      go_wp2_with (first | (refine gM (some 69) Try.func62 #[.agg #[.slice Ao44 x140000_1.length co44, .bool false, .int .i64 x140002_1]] (leap_Right.calls k1 _ _ x140000_1 false x140002_1 false _ ?side1 ?side2 A37.out) ?_; (case side1 => refine (Kd.R_reads' (e := 49) (base := w.heap.size) (ok := fun k_ => True) (n := x140000_1.length) (c := co44) ?_).2.2; exact (by (with_reducible repeat (first | apply Kd.R_alloc | apply Kd.R_drewN | apply Kd.R_drew)); exact (Kd.R_mono (Kd.R_far (p := ⟨gb139, 1, none⟩) (Kd.R_types HO_140000.out BK139.out (by decide)) (fun _ hk => hk.2) (.bool false)) (fun _ h_ => h_.1)))); (case side2 => exact (Kd.R_reads' HO_140000.out).2.1); intro w45 hb; have n0_ := Aside0.mk (Kd.V_below (by (with_reducible repeat (first | apply Kd.V_alloc | apply Kd.V_drewN | apply Kd.V_drew)); exact (Kd.V_mono (Kd.V_far (p := ⟨gb139, 1, none⟩) (Kd.V_mono HO_5.out (fun k_ hk => (⟨hk, hk.2⟩ : _ ∧ k_ ≠ gb139))) (fun _ hk => hk.2) (.bool false)) (fun _ h_ => h_.1))) hb); have n1_ := Aside0.mk (Kd.V_below (by (with_reducible repeat (first | apply Kd.V_alloc | apply Kd.V_drewN | apply Kd.V_drew)); exact (Kd.V_mono (Kd.V_far (p := ⟨gb139, 1, none⟩) (Kd.V_mono HO_14.out (fun k_ hk => (⟨hk, hk.2⟩ : _ ∧ k_ ≠ gb139))) (fun _ hk => hk.2) (.bool false)) (fun _ h_ => h_.1))) hb); have n2_ := Aside0.mk (Kd.R_below (by (with_reducible repeat (first | apply Kd.R_alloc | apply Kd.R_drewN | apply Kd.R_drew)); exact (Kd.R_mono (Kd.R_far (p := ⟨gb139, 1, none⟩) (Kd.R_types HO_140000.out BK139.out (by decide)) (fun _ hk => hk.2) (.bool false)) (fun _ h_ => h_.1))) hb); have n3_ := Aside0.mk (blk_below (g := gb139) (o := .cells #[.slice Ao44 x140000_1.length co44, .bool false, .int .i64 x140002_1] 44 (0, 0)) (by (with_reducible repeat (first | refine blk_drewN ?_ _ | refine blk_drew ?_ | refine blk_alloc ?_ _)); refine blk_put (cs := #[.slice Ao44 x140000_1.length co44, .bool x140001_1, .int .i64 x140002_1]) ?_ 1 _ rfl; (with_reducible repeat (first | refine blk_drewN ?_ _ | refine blk_drew ?_ | refine blk_alloc ?_ _)); exact BK139.out) hb); replace HB := bs HB hb; clear HO_5; clear HO_14; clear HO_140000; clear BK139; have HO_5 := n0_; have HO_14 := n1_; have HO_140000 := n2_; have BK139 := n3_; clear n0_ n1_ n2_ n3_; (try clear hb); (try clear hb2); (try clear hk); (try clear hi); have hcz46_0 := bc BK139 0; have hcz46_1 := bc BK139 1; have hcz46_2 := bc BK139 2; have hfz46_0 := bf BK139 0; have hfz46_1 := bf BK139 1; have hfz46_2 := bf BK139 2))
      refine bodyPost_ret (results_ct rfl _ _ gb139 44 #[.slice none 0 0, .bool false, .int .i64 0] (0, 0) _ rfl (by (with_reducible repeat (first | refine blk_drewN ?_ _ | refine blk_drew ?_ | refine blk_alloc ?_ _)); refine blk_put (cs := #[.slice none 0 0, .bool false, .int .i64 x140002_1]) ?_ 2 _ rfl; (with_reducible repeat (first | refine blk_drewN ?_ _ | refine blk_drew ?_ | refine blk_alloc ?_ _)); refine blk_put (cs := #[.slice none 0 0, .bool false, .int .i64 x140002_1]) ?_ 1 _ rfl; (with_reducible repeat (first | refine blk_drewN ?_ _ | refine blk_drew ?_ | refine blk_alloc ?_ _)); refine blk_put (cs := #[.slice Ao44 x140000_1.length co44, .bool false, .int .i64 x140002_1]) ?_ 0 _ rfl; (with_reducible repeat (first | refine blk_drewN ?_ _ | refine blk_drew ?_ | refine blk_alloc ?_ _)); exact BK139.out) Try.underlying44 rfl (by kernel_rfl)) rfl ?_
      exact ⟨_, by first | rfl | (simp [errW_none, errW_some] <;> rfl) | (simp [*, errW_none, errW_some] <;> rfl), by first | exact Kd.R_nil _ _ _ _ _ | exact Kd.N_nil _ _ _ _ _ | exact Kd.V_nil _ _ _ _ _ | exact Kd.Q_nil _ _ _ _ _ | exact Kd.S_nil _ _ _ _ _, by repeat (first | (with_reducible first | exact HB.out | apply below_alloc | apply pw_below_drewN | apply below_drew1 | refine below_set ?_ GE139.out) | exact HB.out)⟩

/-! ### scale_Known: function 29 -/
def scale_Known.f (k : Nat) (l0 : List (S53)) : Option (Bool) := (record_Right.f k l0).bind fun t154 => (if t154 = true then ((record_Table.f k l0).bind fun bt155 => (some bt155.2.2.2)) else (some false))
theorem scale_Known.mono : ∀ a0 k, LeO (scale_Known.f k a0) (scale_Known.f (k + 1) a0) := by
 intro a0 k
 unfold scale_Known.f
 repeat' first
   | (with_reducible exact record_Right.mono _ _)
   | (with_reducible exact record_Table.mono _ _)
   | (with_reducible exact LeO.refl _)
   | (with_reducible exact LeO.none _)
   | (with_reducible refine LeO.ite ?_ ?_)
   | (with_reducible refine LeO.bind ?_ (fun _ => ?_))
set_option maxHeartbeats 8000000 in
set_option maxRecDepth 100000 in
theorem scale_Known.calls (k : Nat) (A0 : Option Addr) (c0 : Nat) (l0 : List (S53)) (r : Bool) (w : World) (hr0 : Kd.C k53 w A0 l0.length l0) (hc0 : l0.length ≤ c0) (h : scale_Known.f k l0 = some r) :
  Calls Try.prog 29 #[.slice A0 l0.length c0] w fun e w' => e = .returned (.bool r) ∧ Below w.heap.size w w' := by
 have hu44 := Try.underlying44
 have HR0 := Aside0.mk hr0
 have HC0 := Aside0.mk hc0
 clear hr0 hc0
 have HB := Aside0.mk (Below.refl w.heap.size w)
 have H : ((record_Right.f k l0).bind fun t154 => (if t154 = true then ((record_Table.f k l0).bind fun bt155 => (some bt155.2.2.2)) else (some false))) = some r := h
 clear h
 obtain ⟨t154, A2, H⟩ := bnd H
 try dsimp only at H
 by_cases c3 : t154 = true
 ·subst c3
  rw [if_pos rfl] at H
  obtain ⟨⟨t155, t158, t159, t160⟩, A4, H⟩ := bnd H
  try dsimp only at H
  obtain rfl := Option.some.inj H
  go_enter Try.func29, Try.ntmps29
  go_wp2_with (first | (refine gM (some 6) Try.func66 #[.slice A0 l0.length c0] (record_Right.calls k _ _ l0 true _ ?side1 ?side2 A2.out) ?_; (case side1 => exact ca HR0); (case side2 => exact HC0.out); intro w5 hb; replace HB := bs HB hb; (try clear hb)) | (refine gL (some 10) Try.func67 #[.slice A0 l0.length c0] ?_; (with_reducible refine (record_Table.calls k _ _ l0 t155 t158 t159 t160 _ ?side1 ?side2 A4.out).mono ?_); (case side1 => exact cb HR0 HB); (case side2 => exact HC0.out); rintro e w6 ⟨v156, rfl, ho0, hb⟩; refine ⟨_, rfl, ?_⟩; have HO157 := lw ho0 HB; replace HB := bs HB hb; (try clear hb); (try clear ho0)) | (refine bx 3 #[.slice none 0 0, .bool false, .int .i64 0] 44 ?_; intro gb161 hg w7 hbox hb; have n2_ := Aside0.mk (hbox); have GW161 := gw HB hg; have GE161 := gw HB hg; replace HO157 := rb HO157 hb; replace HB := bs HB hb; have BK161 := n2_; clear n2_; clear hb hbox hg; obtain ⟨Ao8, co8, eo8⟩ := Kd.R_slice HO157.out; subst eo8; have hcz9_0 := bc BK161 0; have hcz9_1 := bc BK161 1; have hcz9_2 := bc BK161 2; have hfz9_0 := bf BK161 0; have hfz9_1 := bf BK161 1; have hfz9_2 := bf BK161 2))
  go_ret
  exact fi HB
 ·replace c3 := Bool.eq_false_iff.mpr c3
  subst c3
  rw [if_neg (show ¬ (false = true) by decide)] at H
  obtain rfl := Option.some.inj H
  go_enter Try.func29, Try.ntmps29
  go_wp2_with (first | (refine gM (some 6) Try.func66 #[.slice A0 l0.length c0] (record_Right.calls k _ _ l0 false _ ?side1 ?side2 A2.out) ?_; (case side1 => exact ca HR0); (case side2 => exact HC0.out); intro w10 hb; replace HB := bs HB hb; (try clear hb)))
  go_ret
  exact fi HB

/-! ### smear_windows: function 68 -/
def smear_windows.l0 : Nat → List (S56) → Int → List (S49) → Int → Int → Option ((List (S56)))
 | 0, _, _, _, _, _ => none
 | k + 1, x2, x5, x15, x16, x17 => if x17 < x16 then (if 0 ≤ x17 then (if x17 < (x15.length : Int) then (if x2.length < 5864062014805 then (smear_windows.l0 k (x2 ++ [(⟨wrap64 ((wrap64 ((wrap64 ((wrap64 (((rd_T49 x15 x17).f0) * 86400)) + 43200)) - 63072000)) + x5), wrap64 ((wrap64 (((rd_T49 x15 x17).f0) * 86400)) + 43200), wrap64 (86400 + ((rd_T49 x15 x17).f1))⟩ : S56)]) (wrap64 (x5 + ((rd_T49 x15 x17).f1))) x15 x16 (wrap64 (x17 + 1))) else (none)) else (none)) else (none)) else (some x2)
def smear_windows.f (k : Nat) (l0 : List (S53)) : Option ((List (S56))) := (record_Table.f k l0).bind fun bt162 => (smear_windows.l0 k ([] : List (S56)) 0 bt162.1 (bt162.1.length : Int) 0)
theorem smear_windows.mono_l : ∀ k, (∀ y0 y1 y2 y3 y4, LeO (smear_windows.l0 k y0 y1 y2 y3 y4) (smear_windows.l0 (k + 1) y0 y1 y2 y3 y4))
 | 0 => fun _ _ _ _ _ r h => by simp [smear_windows.l0] at h
 | k + 1 => by
  have ih0 := smear_windows.mono_l k
  ·intro y0 y1 y2 y3 y4
   unfold smear_windows.l0
   repeat' first
   | (with_reducible exact ih0 _ _ _ _ _)
   | (with_reducible exact record_Table.mono _ _)
   | (with_reducible exact LeO.refl _)
   | (with_reducible exact LeO.none _)
   | (with_reducible refine LeO.ite ?_ ?_)
   | (with_reducible refine LeO.bind ?_ (fun _ => ?_))
theorem smear_windows.mono : ∀ a0 k, LeO (smear_windows.f k a0) (smear_windows.f (k + 1) a0) := by
 intro a0 k
 have ih0 := smear_windows.mono_l k
 unfold smear_windows.f
 repeat' first
   | (with_reducible exact ih0 _ _ _ _ _)
   | (with_reducible exact record_Table.mono _ _)
   | (with_reducible exact LeO.refl _)
   | (with_reducible exact LeO.none _)
   | (with_reducible refine LeO.ite ?_ ?_)
   | (with_reducible refine LeO.bind ?_ (fun _ => ?_))
set_option maxHeartbeats 8000000 in
set_option maxRecDepth 100000 in
theorem smear_windows.calls (k : Nat) (A0 : Option Addr) (c0 : Nat) (l0 : List (S53)) (r : List (S56)) (w : World) (hr0 : Kd.C k53 w A0 l0.length l0) (hc0 : l0.length ≤ c0) (h : smear_windows.f k l0 = some r) :
  Calls Try.prog 68 #[.slice A0 l0.length c0] w fun e w' => ∃ v0_ : Value, e = .returned (v0_) ∧ Kd.R k56 56 w' w.heap.size (fun _ => True) v0_ r ∧ Below w.heap.size w w' := by
 have hu44 := Try.underlying44
 have hu49 := Try.underlying49
 have hu56 := Try.underlying56
 have HR0 := Aside0.mk hr0
 have HC0 := Aside0.mk hc0
 clear hr0 hc0
 have HB := Aside0.mk (Below.refl w.heap.size w)
 have H : ((record_Table.f k l0).bind fun bt162 => (smear_windows.l0 k ([] : List (S56)) 0 bt162.1 (bt162.1.length : Int) 0)) = some r := h
 clear h
 obtain ⟨⟨t162, t165, t166, t167⟩, A2, H⟩ := bnd H
 try dsimp only at H
 have H' := Aside0.mk H
 clear H
 go_enter Try.func68, Try.ntmps68
 go_wp2_with (first | (refine gL (some 11) Try.func67 #[.slice A0 l0.length c0] ?_; (with_reducible refine (record_Table.calls k _ _ l0 t162 t165 t166 t167 _ ?side1 ?side2 A2.out).mono ?_); (case side1 => exact ca HR0); (case side2 => exact HC0.out); rintro e w3 ⟨v163, rfl, ho0, hb⟩; refine ⟨_, rfl, ?_⟩; have HO164 := lw ho0 HB; replace HB := bs HB hb; (try clear hb); (try clear ho0)) | (refine bx 3 #[.slice none 0 0, .bool false, .int .i64 0] 44 ?_; intro gb168 hg w4 hbox hb; have n2_ := Aside0.mk (hbox); have GW168 := gw HB hg; have GE168 := gw HB hg; replace HO164 := rb HO164 hb; replace HB := bs HB hb; have BK168 := n2_; clear n2_; clear hb hbox hg; obtain ⟨Ao5, co5, eo5⟩ := Kd.R_slice HO164.out; subst eo5; have hcz6_0 := bc BK168 0; have hcz6_1 := bc BK168 1; have hcz6_2 := bc BK168 2; have hfz6_0 := bf BK168 0; have hfz6_1 := bf BK168 1; have hfz6_2 := bf BK168 2))
 go_loopg [2, 5, 17] k (fun kq v2 v5 v17 w' => ∃ (x2_1 : List (S56)) (x5_1 : Int) (x17_1 : Int), v5 = .int .i64 x5_1 ∧ v17 = .int .i64 x17_1 ∧ Aside0 (smear_windows.l0 kq x2_1 x5_1 t162 (t162.length : Int) x17_1 = some r) ∧ Aside0 (kq ≤ k) ∧ Aside0 (Kd.R k56 56 w' w.heap.size (fun _ => True) v2 x2_1) ∧ Aside0 (Kd.R k49 49 w' w.heap.size (fun _ => True) (.slice Ao5 t162.length co5) t162) ∧ Aside0 (Kd.R k49 49 w' w.heap.size (fun _ => True) (.slice Ao5 t162.length co5) t162) ∧ Aside0 (w'.heap[gb168]? = some (.cells #[(.slice Ao5 t162.length co5), .bool t165, .int .i64 t166] 44 (0, 0))) ∧ Aside0 (Below w.heap.size w w'))
 case atStart => exact ⟨(([] : List (S56))), (0), (0), pr, pr, H', ⟨Nat.le_refl _⟩, ⟨by first | exact Kd.R_nil _ _ _ _ _ | exact Kd.N_nil _ _ _ _ _ | exact Kd.V_nil _ _ _ _ _ | exact Kd.Q_nil _ _ _ _ _ | exact Kd.S_nil _ _ _ _ _⟩, ⟨by (with_reducible repeat (first | apply Kd.R_alloc | apply Kd.R_drewN | apply Kd.R_drew)); exact Kd.R_mono (Kd.R_far (p := ⟨gb168, 2, none⟩) (Kd.R_far (p := ⟨gb168, 1, none⟩) (Kd.R_far (p := ⟨gb168, 0, none⟩) (Kd.R_types HO164.out BK168.out (by decide)) (fun _ hk => hk.2) (.slice Ao5 t162.length co5)) (fun _ hk => hk.2) (.bool t165)) (fun _ hk => hk.2) (.int .i64 t166)) (fun _ hk => trivial)⟩, ⟨by (with_reducible repeat (first | apply Kd.R_alloc | apply Kd.R_drewN | apply Kd.R_drew)); exact Kd.R_mono (Kd.R_far (p := ⟨gb168, 2, none⟩) (Kd.R_far (p := ⟨gb168, 1, none⟩) (Kd.R_far (p := ⟨gb168, 0, none⟩) (Kd.R_types HO164.out BK168.out (by decide)) (fun _ hk => hk.2) (.slice Ao5 t162.length co5)) (fun _ hk => hk.2) (.bool t165)) (fun _ hk => hk.2) (.int .i64 t166)) (fun _ hk => trivial)⟩, ⟨by (with_reducible repeat (first | refine blk_drewN ?_ _ | refine blk_drew ?_ | refine blk_alloc ?_ _)); refine blk_put (cs := #[.slice Ao5 t162.length co5, .bool t165, .int .i64 0]) ?_ 2 _ rfl; (with_reducible repeat (first | refine blk_drewN ?_ _ | refine blk_drew ?_ | refine blk_alloc ?_ _)); refine blk_put (cs := #[.slice Ao5 t162.length co5, .bool false, .int .i64 0]) ?_ 1 _ rfl; (with_reducible repeat (first | refine blk_drewN ?_ _ | refine blk_drew ?_ | refine blk_alloc ?_ _)); refine blk_put (cs := #[.slice none 0 0, .bool false, .int .i64 0]) ?_ 0 _ rfl; (with_reducible repeat (first | refine blk_drewN ?_ _ | refine blk_drew ?_ | refine blk_alloc ?_ _)); exact BK168.out⟩, ba HB⟩
 case round =>
  clear H'
  try clear p2
  try clear c6
  try clear hcz6_0
  try clear hcz6_1
  try clear hcz6_2
  try clear hfz6_0
  try clear hfz6_1
  try clear hfz6_2
  obtain ⟨x2_1, x5_1, x17_1, rfl, rfl, HA, HK1, HO_2, HO_15, HO_169000, BK168, HB⟩ := hrel
  cases gk with
  | zero => exact absurd HA.out (by simp [smear_windows.l0])
  | succ k1 =>
   have H := HA.out
   clear HA
   simp only [smear_windows.l0] at H
   by_cases c7 : x17_1 < (t162.length : Int)
   ·rw [if_pos c7] at H
    have c7b0 : decide (x17_1 < (t162.length : Int)) = true := decide_eq_true c7
    clear c7
    by_cases c8 : 0 ≤ x17_1
    ·rw [if_pos c8] at H
     have c8b0 : decide (0 ≤ x17_1) = true := decide_eq_true c8
     clear c8
     by_cases c9 : x17_1 < (t162.length : Int)
     ·rw [if_pos c9] at H
      have c9b0 : decide (x17_1 < (t162.length : Int)) = true := decide_eq_true c9
      clear c9
      by_cases c10 : x2_1.length < 5864062014805
      ·rw [if_pos c10] at H
       have LMc10 := Aside0.mk c10
       clear c10
       obtain ⟨y171, hy171⟩ : ∃ y_ : List (S56), y_ = (x2_1 ++ [(⟨wrap64 ((wrap64 ((wrap64 ((wrap64 (((rd_T49 t162 x17_1).f0) * 86400)) + 43200)) - 63072000)) + x5_1), wrap64 ((wrap64 (((rd_T49 t162 x17_1).f0) * 86400)) + 43200), wrap64 (86400 + ((rd_T49 t162 x17_1).f1))⟩ : S56)]) := ⟨_, rfl⟩
       replace H : (smear_windows.l0 k1 y171 (wrap64 (x5_1 + ((rd_T49 t162 x17_1).f1))) t162 (t162.length : Int) (wrap64 (x17_1 + 1))) = some r := by first | (rw [hy171]; with_reducible exact H) | (have H2_ := (Option.bind_some _ _).symm.trans H; rw [hy171]; with_reducible exact H2_) | (have H2_ := (Option.bind_some _ _).symm.trans H; with_reducible exact H2_) | with_reducible exact H | (rw [hy171]; exact H) | exact H
       have Ny171 := Aside0.mk hy171
       clear hy171
       have H' := Aside0.mk H
       clear H
       have p169 : 0 ≤ (x17_1 : Int) := pa
       have q169 : x17_1 < (t162.length : Int) := pa
       obtain ⟨ad169, e169, hx169_0, hx169_1, hx169_2⟩ := at_T49 (Kd.R_reads' HO_15.out).2.2 x17_1 p169 q169
       cases e169
       replace p169 := eq_true p169
       replace q169 := eq_true q169
       go_wp2_with (first | (refine bx 7 #[.int .i64 0, .int .i64 0, .bool false] 49 ?_; intro gb170 hg w11 hbox hb; have n1_ := Aside0.mk (Kd.R_below (Kd.R_elderB (by (with_reducible repeat (first | apply Kd.R_alloc | apply Kd.R_drewN | apply Kd.R_drew)); exact HO_15.out) gb170 (Nat.le_of_eq hg.symm)) hb); have n2_ := Aside0.mk (Kd.R_below (Kd.R_elderB (by (with_reducible repeat (first | apply Kd.R_alloc | apply Kd.R_drewN | apply Kd.R_drew)); exact HO_169000.out) gb170 (Nat.le_of_eq hg.symm)) hb); have n5_ := Aside0.mk (hbox); have GW170 := gw HB hg; have GE170 := gw HB hg; have NB168_170 := nl BK168 hg; have NB170_168 := nr BK168 hg; replace HO_2 := rb HO_2 hb; replace BK168 := kb BK168 hb; replace HB := bs HB hb; clear HO_15; clear HO_169000; have HO_15 := n1_; have HO_169000 := n2_; have BK170 := n5_; clear n1_ n2_ n5_; clear hb hbox hg; have hnb12 := NB170_168.out; have hnc12 := NB168_170.out; have hcz13_0 := bc BK170 0; have hcz13_1 := bc BK170 1; have hcz13_2 := bc BK170 2; have hfz13_0 := bf BK170 0; have hfz13_1 := bf BK170 1; have hfz13_2 := bf BK170 2) | ((with_reducible refine gate_builtin (b := .append) (xs := #[.tmp 25, .tmp 35]) rfl ?_); at_builtin; refine Kd.R_append k56 (w0 := w) w.heap.size rfl (.tmp 25) (.tmp 35) 76 56 (.agg #[(.int .i64 0), (.int .i64 0), (.int .i64 0)]) 24 rfl Try.underlying76 info56 rfl (by decide) (by omega) u2 x2_1 (⟨wrap64 ((wrap64 ((wrap64 ((wrap64 (((rd_T49 t162 x17_1).f0) * 86400)) + 43200)) - 63072000)) + x5_1), wrap64 ((wrap64 (((rd_T49 t162 x17_1).f0) * 86400)) + 43200), wrap64 (86400 + ((rd_T49 t162 x17_1).f1))⟩ : S56) [.int .i64 (wrap64 ((wrap64 ((wrap64 ((wrap64 (((rd_T49 t162 x17_1).f0) * 86400)) + 43200)) - 63072000)) + x5_1)), .int .i64 (wrap64 ((wrap64 (((rd_T49 t162 x17_1).f0) * 86400)) + 43200)), .int .i64 (wrap64 (86400 + ((rd_T49 t162 x17_1).f1)))] (fun _ => True) (fun _ => False) rfl (by first | (go_simp; done) | (go_simp; rfl)) ?aP (fun _ hk => hk.elim) ?aF ?aO ?aB ?aS ?aL ?_; (case aP => exact k56_mkM _ _ _ (⟨wrap64 ((wrap64 ((wrap64 ((wrap64 (((rd_T49 t162 x17_1).f0) * 86400)) + 43200)) - 63072000)) + x5_1), wrap64 ((wrap64 (((rd_T49 t162 x17_1).f0) * 86400)) + 43200), wrap64 (86400 + ((rd_T49 t162 x17_1).f1))⟩ : S56)); (case aB => exact (by repeat (first | (with_reducible first | exact HB.out | apply below_alloc | apply pw_below_drewN | apply below_drew1 | refine below_set ?_ GE168.out | refine below_set ?_ GE170.out) | exact HB.out))); (case aF => exact (fun _ _ => trivial)); (case aO => exact (by (with_reducible repeat (first | apply Kd.R_alloc | apply Kd.R_drewN | apply Kd.R_drew)); exact Kd.R_mono (Kd.R_far (p := ⟨gb170, 2, none⟩) (Kd.R_far (p := ⟨gb170, 1, none⟩) (Kd.R_far (p := ⟨gb170, 0, none⟩) (Kd.R_types HO_2.out BK170.out (by decide)) (fun _ hk => hk.2) (.int .i64 ((rd_T49 t162 x17_1).f0))) (fun _ hk => hk.2) (.int .i64 ((rd_T49 t162 x17_1).f1))) (fun _ hk => hk.2) (.bool ((rd_T49 t162 x17_1).f2))) (fun _ hk => trivial))); (case aS => exact (below_size (by repeat (first | (with_reducible first | exact HB.out | apply below_alloc | apply pw_below_drewN | apply below_drew1 | refine below_set ?_ GE168.out | refine below_set ?_ GE170.out) | exact HB.out)))); (case aL => have := LMc10.out; omega); intro v172 w14 ho hb hg hat; rw [← Ny171.out] at ho; have n0_ := Aside0.mk (Kd.R_over' (by (with_reducible repeat (first | apply Kd.R_alloc | apply Kd.R_drewN | apply Kd.R_drew)); exact (Kd.R_mono (Kd.R_far (p := ⟨gb170, 2, none⟩) (Kd.R_far (p := ⟨gb170, 1, none⟩) (Kd.R_far (p := ⟨gb170, 0, none⟩) (Kd.R_mono HO_15.out (fun k_ hk => (⟨hk, hk.2⟩ : _ ∧ k_ ≠ gb170))) (fun _ hk => hk.2) (.int .i64 ((rd_T49 t162 x17_1).f0))) (fun _ hk => hk.2) (.int .i64 ((rd_T49 t162 x17_1).f1))) (fun _ hk => hk.2) (.bool ((rd_T49 t162 x17_1).f2))) (fun _ h_ => h_.1))) (Kd.R_typed (by (with_reducible repeat (first | apply Kd.R_alloc | apply Kd.R_drewN | apply Kd.R_drew)); exact (Kd.R_mono (Kd.R_far (p := ⟨gb170, 2, none⟩) (Kd.R_far (p := ⟨gb170, 1, none⟩) (Kd.R_far (p := ⟨gb170, 0, none⟩) (Kd.R_types HO_2.out BK170.out (by decide)) (fun _ hk => hk.2) (.int .i64 ((rd_T49 t162 x17_1).f0))) (fun _ hk => hk.2) (.int .i64 ((rd_T49 t162 x17_1).f1))) (fun _ hk => hk.2) (.bool ((rd_T49 t162 x17_1).f2))) (fun _ h_ => h_.1)))) (by decide) hg); have n1_ := Aside0.mk (Kd.R_over' (by (with_reducible repeat (first | apply Kd.R_alloc | apply Kd.R_drewN | apply Kd.R_drew)); exact (Kd.R_mono (Kd.R_far (p := ⟨gb170, 2, none⟩) (Kd.R_far (p := ⟨gb170, 1, none⟩) (Kd.R_far (p := ⟨gb170, 0, none⟩) (Kd.R_mono HO_169000.out (fun k_ hk => (⟨hk, hk.2⟩ : _ ∧ k_ ≠ gb170))) (fun _ hk => hk.2) (.int .i64 ((rd_T49 t162 x17_1).f0))) (fun _ hk => hk.2) (.int .i64 ((rd_T49 t162 x17_1).f1))) (fun _ hk => hk.2) (.bool ((rd_T49 t162 x17_1).f2))) (fun _ h_ => h_.1))) (Kd.R_typed (by (with_reducible repeat (first | apply Kd.R_alloc | apply Kd.R_drewN | apply Kd.R_drew)); exact (Kd.R_mono (Kd.R_far (p := ⟨gb170, 2, none⟩) (Kd.R_far (p := ⟨gb170, 1, none⟩) (Kd.R_far (p := ⟨gb170, 0, none⟩) (Kd.R_types HO_2.out BK170.out (by decide)) (fun _ hk => hk.2) (.int .i64 ((rd_T49 t162 x17_1).f0))) (fun _ hk => hk.2) (.int .i64 ((rd_T49 t162 x17_1).f1))) (fun _ hk => hk.2) (.bool ((rd_T49 t162 x17_1).f2))) (fun _ h_ => h_.1)))) (by decide) hg); have n2_ := Aside0.mk (blk_grown (g := gb168) (o := .cells #[.slice (some ad169) t162.length co5, .bool t165, .int .i64 t166] 44 (0, 0)) (by (with_reducible repeat (first | refine blk_drewN ?_ _ | refine blk_drew ?_ | refine blk_alloc ?_ _)); refine blk_far ?_ NB168_170.out _; (with_reducible repeat (first | refine blk_drewN ?_ _ | refine blk_drew ?_ | refine blk_alloc ?_ _)); refine blk_far ?_ NB168_170.out _; (with_reducible repeat (first | refine blk_drewN ?_ _ | refine blk_drew ?_ | refine blk_alloc ?_ _)); refine blk_far ?_ NB168_170.out _; (with_reducible repeat (first | refine blk_drewN ?_ _ | refine blk_drew ?_ | refine blk_alloc ?_ _)); exact BK168.out) hg (Kd.R_ne HO_2.out BK168.out (by decide))); have n3_ := Aside0.mk (blk_grown (g := gb170) (o := .cells #[.int .i64 ((rd_T49 t162 x17_1).f0), .int .i64 ((rd_T49 t162 x17_1).f1), .bool ((rd_T49 t162 x17_1).f2)] 49 (0, 0)) (by (with_reducible repeat (first | refine blk_drewN ?_ _ | refine blk_drew ?_ | refine blk_alloc ?_ _)); refine blk_put (cs := #[.int .i64 ((rd_T49 t162 x17_1).f0), .int .i64 ((rd_T49 t162 x17_1).f1), .bool false]) ?_ 2 _ rfl; (with_reducible repeat (first | refine blk_drewN ?_ _ | refine blk_drew ?_ | refine blk_alloc ?_ _)); refine blk_put (cs := #[.int .i64 ((rd_T49 t162 x17_1).f0), .int .i64 0, .bool false]) ?_ 1 _ rfl; (with_reducible repeat (first | refine blk_drewN ?_ _ | refine blk_drew ?_ | refine blk_alloc ?_ _)); refine blk_put (cs := #[.int .i64 0, .int .i64 0, .bool false]) ?_ 0 _ rfl; (with_reducible repeat (first | refine blk_drewN ?_ _ | refine blk_drew ?_ | refine blk_alloc ?_ _)); exact BK170.out) hg (Kd.R_ne HO_2.out BK170.out (by decide))); have n4_ := Aside0.mk (hb); have n5_ := Aside0.mk (ho); clear HO_15; clear HO_169000; clear BK168; clear BK170; clear HB; clear HO_2; have HO_15 := n0_; have HO_169000 := n1_; have BK168 := n2_; have BK170 := n3_; have HB := n4_; have HO173 := n5_; clear n0_ n1_ n2_ n3_ n4_ n5_; clear ho hb hg hat; have hcz15_0 := bc BK170 0; have hcz15_1 := bc BK170 1; have hcz15_2 := bc BK170 2; have hfz15_0 := bf BK170 0; have hfz15_1 := bf BK170 1; have hfz15_2 := bf BK170 2))
       go_roundg k1
       case measure => have := HK1.out; omega
       case rel => exact ⟨(y171), (wrap64 (x5_1 + ((rd_T49 t162 x17_1).f1))), (wrap64 (x17_1 + 1)), pr, pr, H', ⟨by have := HK1.out; omega⟩, ra HO173, ⟨by (with_reducible repeat (first | apply Kd.R_alloc | apply Kd.R_drewN | apply Kd.R_drew)); exact Kd.R_mono HO_15.out (fun _ hk => trivial)⟩, ⟨by (with_reducible repeat (first | apply Kd.R_alloc | apply Kd.R_drewN | apply Kd.R_drew)); exact Kd.R_mono HO_169000.out (fun _ hk => trivial)⟩, ka BK168, ba HB⟩
      ·rw [if_neg c10] at H
       exact absurd H (by simp)
     ·rw [if_neg c9] at H
      exact absurd H (by simp)
    ·rw [if_neg c8] at H
     exact absurd H (by simp)
   ·rw [if_neg c7] at H
    have c7b0 : decide (x17_1 < (t162.length : Int)) = false := decide_eq_false c7
    clear c7
    obtain rfl := Option.some.inj H
    go_wp2
    go_ret
    exact ⟨_, by first | rfl | (simp [errW_none, errW_some] <;> rfl) | (simp [*, errW_none, errW_some] <;> rfl), by (with_reducible repeat (first | apply Kd.R_alloc | apply Kd.R_drewN | apply Kd.R_drew)); exact HO_2.out, by repeat (first | (with_reducible first | exact HB.out | apply below_alloc | apply pw_below_drewN | apply below_drew1 | refine below_set ?_ GE168.out) | exact HB.out)⟩

-- NOT PRINTED: function 69 (smear_window)

end Go.Proofs.Ythoigncoojcanaa.PAll
