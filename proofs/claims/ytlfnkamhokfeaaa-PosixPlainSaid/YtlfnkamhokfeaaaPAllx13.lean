-- Written for this claim by wip/tools of this repo (after the kit's print; own contracts laid in).
import Derived.Test.YtlfnkamhokfeaaaPAllx0
import Derived.Test.YtlfnkamhokfeaaaPAllx1
import Derived.Test.YtlfnkamhokfeaaaPAllx4
import Derived.Test.YtlfnkamhokfeaaaPAllx5
import Derived.Test.YtlfnkamhokfeaaaPAllx6
namespace Go.Proofs.Ytlfnkamhokfeaaa.PAll
open Go.RowKit Go.Proofs.YtlfnkamhokfeaaaW.PrintWords Go.Proofs.YtlfnkamhokfeaaaW.PrintLast Go.Proofs.YtlfnkamhokfeaaaW.PrintMore
attribute [local go_sem] max2_int min2_int max_two min_two max_three min_three max_four min_four   -- for this text's walks alone
set_option linter.unusedVariables false
set_option linter.unusedSimpArgs false

/-! ### epactlaw23_PosixPlain: function 6 -/
def epactlaw23_PosixPlain.j0 : Nat → Int → Bool → Int → Int → Bool → Option (Bool)
  | 0, _, _, _, _, _ => none
  | k + 1, x0, x3, x4, x5, x21 => if x21 = true then (if x3 = true then (if x5 = 9 then (some (x4 == 0)) else (none)) else (none)) else ((posix_Tai.f k ([] : List (S40)) x4).bind fun bt442 => ((posix_Twice.f k ([] : List (S40)) x4).bind fun bt444 => (if x3 = true then (if x5 = 0 then (if x4 = (wrap64 (x0 + 63072000)) then (if bt442.2 = 0 then (if bt442.1 = x0 then (if bt444.1 = true then (none) else (some (bt444.2 == 0))) else (none)) else (none)) else (none)) else (none)) else (none))))
def epactlaw23_PosixPlain.f (k : Nat) (a0 : Int) : Option (Bool) := (epactlaw23_small.f k).bind fun t439 => ((posix_From.f k ([] : List (S40)) a0).bind fun bt440 => (if a0 < 0 then (epactlaw23_PosixPlain.j0 k a0 t439 bt440.1 bt440.2 true) else (epactlaw23_PosixPlain.j0 k a0 t439 bt440.1 bt440.2 (decide (a0 ≥ 253339228800)))))
theorem epactlaw23_PosixPlain.mono_l : ∀ k, (∀ y0 y1 y2 y3 y4, LeO (epactlaw23_PosixPlain.j0 k y0 y1 y2 y3 y4) (epactlaw23_PosixPlain.j0 (k + 1) y0 y1 y2 y3 y4))
  | 0 => fun _ _ _ _ _ r h => by simp [epactlaw23_PosixPlain.j0] at h
  | k + 1 => by
    have ih0 := epactlaw23_PosixPlain.mono_l k
    · intro y0 y1 y2 y3 y4
      unfold epactlaw23_PosixPlain.j0
      repeat' first
      | (with_reducible exact ih0 _ _ _ _ _)
      | (with_reducible exact epactlaw23_small.mono _)
      | (with_reducible exact posix_From.mono _ _ _)
      | (with_reducible exact posix_Tai.mono _ _ _)
      | (with_reducible exact posix_Twice.mono _ _ _)
      | (with_reducible exact LeO.refl _)
      | (with_reducible exact LeO.none _)
      | (with_reducible refine LeO.ite ?_ ?_)
      | (with_reducible refine LeO.bind ?_ (fun _ => ?_))
      | exact ih0 _ _ _ _ _
      | exact epactlaw23_small.mono _
      | exact posix_From.mono _ _ _
      | exact posix_Tai.mono _ _ _
      | exact posix_Twice.mono _ _ _
      | exact LeO.none _
      | refine LeO.ite ?_ ?_
      | refine LeO.bind ?_ (fun _ => ?_)
theorem epactlaw23_PosixPlain.mono : ∀ a0 k, LeO (epactlaw23_PosixPlain.f k a0) (epactlaw23_PosixPlain.f (k + 1) a0) := by
  intro a0 k
  have ih0 := epactlaw23_PosixPlain.mono_l k
  unfold epactlaw23_PosixPlain.f
  repeat' first
      | (with_reducible exact ih0 _ _ _ _ _)
      | (with_reducible exact epactlaw23_small.mono _)
      | (with_reducible exact posix_From.mono _ _ _)
      | (with_reducible exact posix_Tai.mono _ _ _)
      | (with_reducible exact posix_Twice.mono _ _ _)
      | (with_reducible exact LeO.refl _)
      | (with_reducible exact LeO.none _)
      | (with_reducible refine LeO.ite ?_ ?_)
      | (with_reducible refine LeO.bind ?_ (fun _ => ?_))
      | exact ih0 _ _ _ _ _
      | exact epactlaw23_small.mono _
      | exact posix_From.mono _ _ _
      | exact posix_Tai.mono _ _ _
      | exact posix_Twice.mono _ _ _
      | exact LeO.none _
      | refine LeO.ite ?_ ?_
      | refine LeO.bind ?_ (fun _ => ?_)
set_option maxHeartbeats 8000000 in
set_option maxRecDepth 100000 in
theorem epactlaw23_PosixPlain.calls (k : Nat) (a0 : Int) (r : Bool) (w : World) (h : epactlaw23_PosixPlain.f k a0 = some r) :
    Calls Try.prog 6 #[.int .i64 a0] w fun e w' => e = .returned (.bool r) ∧ Below w.heap.size w w' := by
  have HB := Aside0.mk (Below.refl w.heap.size w)
  have H : ((epactlaw23_small.f k).bind fun t439 => ((posix_From.f k ([] : List (S40)) a0).bind fun bt440 => (if a0 < 0 then (epactlaw23_PosixPlain.j0 k a0 t439 bt440.1 bt440.2 true) else (epactlaw23_PosixPlain.j0 k a0 t439 bt440.1 bt440.2 (decide (a0 ≥ 253339228800)))))) = some r := h
  clear h
  replace H := Option.bind_eq_some_iff.mp H
  obtain ⟨t439, A20, H⟩ := H
  replace H : ((posix_From.f k ([] : List (S40)) a0).bind fun bt440 => (if a0 < 0 then (epactlaw23_PosixPlain.j0 k a0 t439 bt440.1 bt440.2 true) else (epactlaw23_PosixPlain.j0 k a0 t439 bt440.1 bt440.2 (decide (a0 ≥ 253339228800))))) = some r := H
  have A2 := Aside0.mk A20
  clear A20
  replace H := Option.bind_eq_some_iff.mp H
  obtain ⟨⟨t440, t441⟩, A30, H⟩ := H
  replace H : (if a0 < 0 then (epactlaw23_PosixPlain.j0 k a0 t439 t440 t441 true) else (epactlaw23_PosixPlain.j0 k a0 t439 t440 t441 (decide (a0 ≥ 253339228800)))) = some r := H
  have A3 := Aside0.mk A30
  clear A30
  have HC4 := Aside0.mk H
  clear H
  go_enter Try.func6, Try.ntmps6
  go_upto_region 3 with (first | ((with_reducible refine gate_callee (f := 8) rfl ?_); refine goesL_ (some 10) rfl rfl Try.func8 (by kernel_rfl) rfl #[] rfl (by (try simp only [List.map_toArray, List.map_cons, List.map_nil]); first | done | rfl | (simp only [List.length_drop, List.length_take]; rfl)) ?_; (with_reducible refine (epactlaw23_small.calls k  t439 _ A2.out).mono ?_); rintro e w5 ⟨rfl, hb⟩; refine ⟨_, rfl, ?_⟩; have n0_ := Aside0.mk (below_step (by repeat (first | (with_reducible first | exact HB.out | apply below_alloc | apply pw_below_drewN | apply below_drew1) | exact HB.out)) hb); clear HB; have HB := n0_; clear n0_; (try clear hb); (try clear hb2); (try clear hk); (try clear hi)) | ((with_reducible refine gate_callee (f := 17) rfl ?_); refine goesL_ (some 13) rfl rfl Try.func17 (by kernel_rfl) rfl #[.slice none 0 0, .int .i64 a0] rfl (by (try simp only [List.map_toArray, List.map_cons, List.map_nil]); first | done | rfl | (simp only [List.length_drop, List.length_take]; rfl)) ?_; (refine (posix_From.calls k _ _ ([] : List (S40)) a0 t440 t441 _ ?side1 ?side2 A3.out).mono ?_); (case side1 => exact Kd.C_nil _ _); (case side2 => exact Nat.le_refl _); rintro e w6 ⟨rfl, hb⟩; refine ⟨_, rfl, ?_⟩; have n0_ := Aside0.mk (below_step (by repeat (first | (with_reducible first | exact HB.out | apply below_alloc | apply pw_below_drewN | apply below_drew1) | exact HB.out)) hb); clear HB; have HB := n0_; clear n0_; (try clear hb); (try clear hb2); (try clear hk); (try clear hi)))
  (try simp only [Act.put, List.setIfInBounds_toArray, List.set_cons_zero, List.set_cons_succ])
  go_cut [21] (fun v21 wc => ∃ (kq : Nat) (x21_3 : Bool), v21 = .bool x21_3 ∧ Aside0 (epactlaw23_PosixPlain.j0 kq a0 t439 t440 t441 x21_3 = some r) ∧ Aside0 (kq ≤ k) ∧ Aside0 (Below w.heap.size w wc))
  case first =>
    have H := HC4.out
    clear HC4
    by_cases c7 : a0 < 0
    · rw [if_pos c7] at H
      have c7b0 : decide (a0 < 0) = true := decide_eq_true c7
      clear c7
      (first | rw [c7b0] | (simp only [i64_w, i32_w]; rw [c7b0]) | skip)
      have H' := Aside0.mk H
      clear H
      go_wp2
      go_meet
      case rel => exact ⟨_, (true), (by first | rfl | (simp; done) | (simp [*]; done)), H', ⟨by first | omega | exact Nat.le_refl _⟩, ⟨by repeat (first | (with_reducible first | exact HB.out | apply below_alloc | apply pw_below_drewN | apply below_drew1) | exact HB.out)⟩⟩
    · rw [if_neg c7] at H
      have c7b0 : decide (a0 < 0) = false := decide_eq_false c7
      clear c7
      (first | rw [c7b0] | (simp only [i64_w, i32_w]; rw [c7b0]) | skip)
      have H' := Aside0.mk H
      clear H
      go_wp2
      go_meet
      case rel => exact ⟨_, (decide (a0 ≥ 253339228800)), (by first | rfl | (simp; done) | (simp [*]; done)), H', ⟨by first | omega | exact Nat.le_refl _⟩, ⟨by repeat (first | (with_reducible first | exact HB.out | apply below_alloc | apply pw_below_drewN | apply below_drew1) | exact HB.out)⟩⟩
  case rest =>
    clear HC4
    try clear c1
    try clear p2
    try clear c6
    try clear c7
    try clear c7b0
    obtain ⟨kq, x21_3, rfl, HA, HJ3, HB⟩ := hcut
    cases kq with
    | zero => exact absurd HA.out (by simp [epactlaw23_PosixPlain.j0])
    | succ kj3 =>
      have H := HA.out
      clear HA
      simp only [epactlaw23_PosixPlain.j0] at H
      by_cases c8 : x21_3 = true
      · subst c8
        have H1 : (if t439 = true then (if t441 = 9 then (some (t440 == 0)) else (none)) else (none)) = some r := by rw [if_pos rfl] at H; exact H
        clear H
        have H := H1
        clear H1
        by_cases c9 : t439 = true
        · subst c9
          have H1 : (if t441 = 9 then (some (t440 == 0)) else (none)) = some r := by rw [if_pos rfl] at H; exact H
          clear H
          have H := H1
          clear H1
          by_cases c10 : t441 = 9
          · rw [if_pos c10] at H
            have c10b0 : (t441 == 9) = true := beq_iff_eq.mpr c10
            have c10b1 : (t441 != 9) = false := bne_eq_false_iff_eq.mpr c10
            clear c10
            obtain rfl := Option.some.inj H
            go_wp2
            go_ret
            exact ⟨by first | rfl | (simp [errW_none, errW_some] <;> rfl) | (simp [*, errW_none, errW_some] <;> rfl), by repeat (first | (with_reducible first | exact HB.out | apply below_alloc | apply pw_below_drewN | apply below_drew1) | exact HB.out)⟩
          · rw [if_neg c10] at H
            exact absurd H (by simp)
        · replace c9 := Bool.eq_false_iff.mpr c9
          subst c9
          have H1 : (none) = some r := by rw [if_neg (show ¬ (false = true) by decide)] at H; exact H
          clear H
          have H := H1
          clear H1
          exact absurd H (by simp)
      · replace c8 := Bool.eq_false_iff.mpr c8
        subst c8
        have H1 : ((posix_Tai.f kj3 ([] : List (S40)) t440).bind fun bt442 => ((posix_Twice.f kj3 ([] : List (S40)) t440).bind fun bt444 => (if t439 = true then (if t441 = 0 then (if t440 = (wrap64 (a0 + 63072000)) then (if bt442.2 = 0 then (if bt442.1 = a0 then (if bt444.1 = true then (none) else (some (bt444.2 == 0))) else (none)) else (none)) else (none)) else (none)) else (none)))) = some r := by rw [if_neg (show ¬ (false = true) by decide)] at H; exact H
        clear H
        have H := H1
        clear H1
        replace H := Option.bind_eq_some_iff.mp H
        obtain ⟨⟨t442, t443⟩, A110, H⟩ := H
        replace H : ((posix_Twice.f kj3 ([] : List (S40)) t440).bind fun bt444 => (if t439 = true then (if t441 = 0 then (if t440 = (wrap64 (a0 + 63072000)) then (if t443 = 0 then (if t442 = a0 then (if bt444.1 = true then (none) else (some (bt444.2 == 0))) else (none)) else (none)) else (none)) else (none)) else (none))) = some r := H
        have A11 := Aside0.mk A110
        clear A110
        replace H := Option.bind_eq_some_iff.mp H
        obtain ⟨⟨t444, t445⟩, A120, H⟩ := H
        replace H : (if t439 = true then (if t441 = 0 then (if t440 = (wrap64 (a0 + 63072000)) then (if t443 = 0 then (if t442 = a0 then (if t444 = true then (none) else (some (t445 == 0))) else (none)) else (none)) else (none)) else (none)) else (none)) = some r := H
        have A12 := Aside0.mk A120
        clear A120
        by_cases c13 : t439 = true
        · subst c13
          have H1 : (if t441 = 0 then (if t440 = (wrap64 (a0 + 63072000)) then (if t443 = 0 then (if t442 = a0 then (if t444 = true then (none) else (some (t445 == 0))) else (none)) else (none)) else (none)) else (none)) = some r := by rw [if_pos rfl] at H; exact H
          clear H
          have H := H1
          clear H1
          by_cases c14 : t441 = 0
          · rw [if_pos c14] at H
            have c14b0 : (t441 == 0) = true := beq_iff_eq.mpr c14
            have c14b1 : (t441 != 0) = false := bne_eq_false_iff_eq.mpr c14
            clear c14
            by_cases c15 : t440 = (wrap64 (a0 + 63072000))
            · rw [if_pos c15] at H
              have c15b0 : (t440 == (wrap64 (a0 + 63072000))) = true := beq_iff_eq.mpr c15
              have c15b1 : (t440 != (wrap64 (a0 + 63072000))) = false := bne_eq_false_iff_eq.mpr c15
              clear c15
              by_cases c16 : t443 = 0
              · rw [if_pos c16] at H
                have c16b0 : (t443 == 0) = true := beq_iff_eq.mpr c16
                have c16b1 : (t443 != 0) = false := bne_eq_false_iff_eq.mpr c16
                clear c16
                by_cases c17 : t442 = a0
                · rw [if_pos c17] at H
                  have c17b0 : (t442 == a0) = true := beq_iff_eq.mpr c17
                  have c17b1 : (t442 != a0) = false := bne_eq_false_iff_eq.mpr c17
                  clear c17
                  by_cases c18 : t444 = true
                  · subst c18
                    have H1 : (none) = some r := by rw [if_pos rfl] at H; exact H
                    clear H
                    have H := H1
                    clear H1
                    exact absurd H (by simp)
                  · replace c18 := Bool.eq_false_iff.mpr c18
                    subst c18
                    have H1 : (some (t445 == 0)) = some r := by rw [if_neg (show ¬ (false = true) by decide)] at H; exact H
                    clear H
                    have H := H1
                    clear H1
                    obtain rfl := Option.some.inj H
                    go_wp2_with (first | ((with_reducible refine gate_callee (f := 15) rfl ?_); refine goesL_ (some 33) rfl rfl Try.func15 (by kernel_rfl) rfl #[.slice none 0 0, .int .i64 t440] rfl (by (try simp only [List.map_toArray, List.map_cons, List.map_nil]); first | done | rfl | (simp only [List.length_drop, List.length_take]; rfl)) ?_; (refine (posix_Tai.calls kj3 _ _ ([] : List (S40)) t440 t442 t443 _ ?side1 ?side2 A11.out).mono ?_); (case side1 => exact Kd.C_nil _ _); (case side2 => exact Nat.le_refl _); rintro e w19 ⟨rfl, hb⟩; refine ⟨_, rfl, ?_⟩; have n0_ := Aside0.mk (below_step (by repeat (first | (with_reducible first | exact HB.out | apply below_alloc | apply pw_below_drewN | apply below_drew1) | exact HB.out)) hb); clear HB; have HB := n0_; clear n0_; (try clear hb); (try clear hb2); (try clear hk); (try clear hi)) | ((with_reducible refine gate_callee (f := 19) rfl ?_); refine goesL_ (some 38) rfl rfl Try.func19 (by kernel_rfl) rfl #[.slice none 0 0, .int .i64 t440] rfl (by (try simp only [List.map_toArray, List.map_cons, List.map_nil]); first | done | rfl | (simp only [List.length_drop, List.length_take]; rfl)) ?_; (refine (posix_Twice.calls kj3 _ _ ([] : List (S40)) t440 false t445 _ ?side1 ?side2 A12.out).mono ?_); (case side1 => exact Kd.C_nil _ _); (case side2 => exact Nat.le_refl _); rintro e w20 ⟨rfl, hb⟩; refine ⟨_, rfl, ?_⟩; have n0_ := Aside0.mk (below_step (by repeat (first | (with_reducible first | exact HB.out | apply below_alloc | apply pw_below_drewN | apply below_drew1) | exact HB.out)) hb); clear HB; have HB := n0_; clear n0_; (try clear hb); (try clear hb2); (try clear hk); (try clear hi)))
                    go_ret
                    exact ⟨by first | rfl | (simp [errW_none, errW_some] <;> rfl) | (simp [*, errW_none, errW_some] <;> rfl), by repeat (first | (with_reducible first | exact HB.out | apply below_alloc | apply pw_below_drewN | apply below_drew1) | exact HB.out)⟩
                · rw [if_neg c17] at H
                  exact absurd H (by simp)
              · rw [if_neg c16] at H
                exact absurd H (by simp)
            · rw [if_neg c15] at H
              exact absurd H (by simp)
          · rw [if_neg c14] at H
            exact absurd H (by simp)
        · replace c13 := Bool.eq_false_iff.mpr c13
          subst c13
          have H1 : (none) = some r := by rw [if_neg (show ¬ (false = true) by decide)] at H; exact H
          clear H
          have H := H1
          clear H1
          exact absurd H (by simp)

/-- THE ONE PURE STATEMENT of epactlaw23_PosixPlain: yours. -/
def epactlaw23_PosixPlain.Pure : Prop := ∀ (a0 : Int), (Lit.int .i64 a0).wf = true → ∃ k, epactlaw23_PosixPlain.f k a0 = some true
theorem epactlaw23_PosixPlain.walk (P : epactlaw23_PosixPlain.Pure) (a0 : Int) (w : World) (w0 : (Lit.int .i64 a0).wf = true) :
    Calls Try.prog 6 #[.int .i64 a0] w fun e w' => e = .returned (.bool true) ∧ Below w.heap.size w w' := by
  obtain ⟨k, h⟩ := P a0 w0
  refine (epactlaw23_PosixPlain.calls k a0 true w h).mono ?_
  rintro e w' ⟨rfl, hd⟩
  exact ⟨rfl, hd⟩

/-! ### epactlaw23_PosixDays: function 7 -/
def epactlaw23_PosixDays.j0 : Nat → Int → Int → Bool → Int → Bool → Bool → Option (Bool)
  | 0, _, _, _, _, _, _ => none
  | k + 1, x0, x1, x5, x6, x7, x34 => if x34 = true then (none) else (if x7 = true then ((posix_Day.f x6).bind fun bt449 => ((posix_Of.f x0 (mn x1 86399)).bind fun bt451 => (if x5 = true then (if bt449.1 = x0 then (if bt449.2 = (mn x1 86399) then (some (bt451.1 == x6)) else (none)) else (none)) else (none)))) else (if x5 = true then (some (x6 == 0)) else (none)))
def epactlaw23_PosixDays.f (k : Nat) (a0 : Int) (a1 : Int) : Option (Bool) := (epactlaw23_small.f k).bind fun t446 => ((posix_Of.f a0 a1).bind fun bt447 => (if a0 ≥ (-719162) then (if a0 ≤ 2932896 then (if a1 ≥ 0 then (epactlaw23_PosixDays.j0 k a0 a1 t446 bt447.1 bt447.2 (bt447.2 != (decide (a1 ≤ 86400)))) else (epactlaw23_PosixDays.j0 k a0 a1 t446 bt447.1 bt447.2 (bt447.2 != false))) else (epactlaw23_PosixDays.j0 k a0 a1 t446 bt447.1 bt447.2 (bt447.2 != false))) else (epactlaw23_PosixDays.j0 k a0 a1 t446 bt447.1 bt447.2 (bt447.2 != false))))
theorem epactlaw23_PosixDays.mono_l : ∀ k, (∀ y0 y1 y2 y3 y4 y5, LeO (epactlaw23_PosixDays.j0 k y0 y1 y2 y3 y4 y5) (epactlaw23_PosixDays.j0 (k + 1) y0 y1 y2 y3 y4 y5))
  | 0 => fun _ _ _ _ _ _ r h => by simp [epactlaw23_PosixDays.j0] at h
  | k + 1 => by
    have ih0 := epactlaw23_PosixDays.mono_l k
    · intro y0 y1 y2 y3 y4 y5
      unfold epactlaw23_PosixDays.j0
      repeat' first
      | (with_reducible exact ih0 _ _ _ _ _ _)
      | (with_reducible exact epactlaw23_small.mono _)
      | (with_reducible exact LeO.refl _)
      | (with_reducible exact LeO.none _)
      | (with_reducible refine LeO.ite ?_ ?_)
      | (with_reducible refine LeO.bind ?_ (fun _ => ?_))
      | exact ih0 _ _ _ _ _ _
      | exact epactlaw23_small.mono _
      | exact LeO.none _
      | refine LeO.ite ?_ ?_
      | refine LeO.bind ?_ (fun _ => ?_)
theorem epactlaw23_PosixDays.mono : ∀ a0 a1 k, LeO (epactlaw23_PosixDays.f k a0 a1) (epactlaw23_PosixDays.f (k + 1) a0 a1) := by
  intro a0 a1 k
  have ih0 := epactlaw23_PosixDays.mono_l k
  unfold epactlaw23_PosixDays.f
  repeat' first
      | (with_reducible exact ih0 _ _ _ _ _ _)
      | (with_reducible exact epactlaw23_small.mono _)
      | (with_reducible exact LeO.refl _)
      | (with_reducible exact LeO.none _)
      | (with_reducible refine LeO.ite ?_ ?_)
      | (with_reducible refine LeO.bind ?_ (fun _ => ?_))
      | exact ih0 _ _ _ _ _ _
      | exact epactlaw23_small.mono _
      | exact LeO.none _
      | refine LeO.ite ?_ ?_
      | refine LeO.bind ?_ (fun _ => ?_)
set_option maxHeartbeats 8000000 in
set_option maxRecDepth 100000 in
theorem epactlaw23_PosixDays.calls (k : Nat) (a0 : Int) (a1 : Int) (r : Bool) (w : World) (h : epactlaw23_PosixDays.f k a0 a1 = some r) :
    Calls Try.prog 7 #[.int .i64 a0, .int .i64 a1] w fun e w' => e = .returned (.bool r) ∧ Below w.heap.size w w' := by
  have HB := Aside0.mk (Below.refl w.heap.size w)
  have H : ((epactlaw23_small.f k).bind fun t446 => ((posix_Of.f a0 a1).bind fun bt447 => (if a0 ≥ (-719162) then (if a0 ≤ 2932896 then (if a1 ≥ 0 then (epactlaw23_PosixDays.j0 k a0 a1 t446 bt447.1 bt447.2 (bt447.2 != (decide (a1 ≤ 86400)))) else (epactlaw23_PosixDays.j0 k a0 a1 t446 bt447.1 bt447.2 (bt447.2 != false))) else (epactlaw23_PosixDays.j0 k a0 a1 t446 bt447.1 bt447.2 (bt447.2 != false))) else (epactlaw23_PosixDays.j0 k a0 a1 t446 bt447.1 bt447.2 (bt447.2 != false))))) = some r := h
  clear h
  replace H := Option.bind_eq_some_iff.mp H
  obtain ⟨t446, A30, H⟩ := H
  replace H : ((posix_Of.f a0 a1).bind fun bt447 => (if a0 ≥ (-719162) then (if a0 ≤ 2932896 then (if a1 ≥ 0 then (epactlaw23_PosixDays.j0 k a0 a1 t446 bt447.1 bt447.2 (bt447.2 != (decide (a1 ≤ 86400)))) else (epactlaw23_PosixDays.j0 k a0 a1 t446 bt447.1 bt447.2 (bt447.2 != false))) else (epactlaw23_PosixDays.j0 k a0 a1 t446 bt447.1 bt447.2 (bt447.2 != false))) else (epactlaw23_PosixDays.j0 k a0 a1 t446 bt447.1 bt447.2 (bt447.2 != false)))) = some r := H
  have A3 := Aside0.mk A30
  clear A30
  replace H := Option.bind_eq_some_iff.mp H
  obtain ⟨⟨t447, t448⟩, A40, H⟩ := H
  replace H : (if a0 ≥ (-719162) then (if a0 ≤ 2932896 then (if a1 ≥ 0 then (epactlaw23_PosixDays.j0 k a0 a1 t446 t447 t448 (t448 != (decide (a1 ≤ 86400)))) else (epactlaw23_PosixDays.j0 k a0 a1 t446 t447 t448 (t448 != false))) else (epactlaw23_PosixDays.j0 k a0 a1 t446 t447 t448 (t448 != false))) else (epactlaw23_PosixDays.j0 k a0 a1 t446 t447 t448 (t448 != false))) = some r := H
  have A4 := Aside0.mk A40
  clear A40
  have HC5 := Aside0.mk H
  clear H
  go_enter Try.func7, Try.ntmps7
  go_upto_region 3 with (first | ((with_reducible refine gate_callee (f := 8) rfl ?_); refine goesL_ (some 12) rfl rfl Try.func8 (by kernel_rfl) rfl #[] rfl (by (try simp only [List.map_toArray, List.map_cons, List.map_nil]); first | done | rfl | (simp only [List.length_drop, List.length_take]; rfl)) ?_; (with_reducible refine (epactlaw23_small.calls k  t446 _ A3.out).mono ?_); rintro e w6 ⟨rfl, hb⟩; refine ⟨_, rfl, ?_⟩; have n0_ := Aside0.mk (below_step (by repeat (first | (with_reducible first | exact HB.out | apply below_alloc | apply pw_below_drewN | apply below_drew1) | exact HB.out)) hb); clear HB; have HB := n0_; clear n0_; (try clear hb); (try clear hb2); (try clear hk); (try clear hi)) | ((with_reducible refine gate_callee (f := 9) rfl ?_); refine goesL_ (some 16) rfl rfl Try.func9 (by kernel_rfl) rfl #[.int .i64 a0, .int .i64 a1] rfl (by (try simp only [List.map_toArray, List.map_cons, List.map_nil]); first | done | rfl | (simp only [List.length_drop, List.length_take]; rfl)) ?_; (with_reducible refine (posix_Of.calls a0 a1 t447 t448 _ A4.out).mono ?_); rintro e w7 ⟨rfl, hb⟩; refine ⟨_, rfl, ?_⟩; have n0_ := Aside0.mk (below_step (by repeat (first | (with_reducible first | exact HB.out | apply below_alloc | apply pw_below_drewN | apply below_drew1) | exact HB.out)) hb); clear HB; have HB := n0_; clear n0_; (try clear hb); (try clear hb2); (try clear hk); (try clear hi)))
  (try simp only [Act.put, List.setIfInBounds_toArray, List.set_cons_zero, List.set_cons_succ])
  go_cut [34] (fun v34 wc => ∃ (kq : Nat) (x34_4 : Bool), v34 = .bool x34_4 ∧ Aside0 (epactlaw23_PosixDays.j0 kq a0 a1 t446 t447 t448 x34_4 = some r) ∧ Aside0 (kq ≤ k) ∧ Aside0 (Below w.heap.size w wc))
  case first =>
    have H := HC5.out
    clear HC5
    by_cases c8 : a0 ≥ (-719162)
    · rw [if_pos c8] at H
      have c8b0 : decide ((-719162) ≤ a0) = true := decide_eq_true c8
      clear c8
      (first | rw [c8b0] | (simp only [i64_w, i32_w]; rw [c8b0]) | skip)
      by_cases c9 : a0 ≤ 2932896
      · rw [if_pos c9] at H
        have c9b0 : decide (a0 ≤ 2932896) = true := decide_eq_true c9
        clear c9
        by_cases c10 : a1 ≥ 0
        · rw [if_pos c10] at H
          have c10b0 : decide (0 ≤ a1) = true := decide_eq_true c10
          clear c10
          have H' := Aside0.mk H
          clear H
          go_wp2
          go_meet
          case rel => exact ⟨_, ((t448 != (decide (a1 ≤ 86400)))), (by first | rfl | (simp; done) | (simp [*]; done)), H', ⟨by first | omega | exact Nat.le_refl _⟩, ⟨by repeat (first | (with_reducible first | exact HB.out | apply below_alloc | apply pw_below_drewN | apply below_drew1) | exact HB.out)⟩⟩
        · rw [if_neg c10] at H
          have c10b0 : decide (0 ≤ a1) = false := decide_eq_false c10
          clear c10
          have H' := Aside0.mk H
          clear H
          go_wp2
          go_meet
          case rel => exact ⟨_, ((t448 != false)), (by first | rfl | (simp; done) | (simp [*]; done)), H', ⟨by first | omega | exact Nat.le_refl _⟩, ⟨by repeat (first | (with_reducible first | exact HB.out | apply below_alloc | apply pw_below_drewN | apply below_drew1) | exact HB.out)⟩⟩
      · rw [if_neg c9] at H
        have c9b0 : decide (a0 ≤ 2932896) = false := decide_eq_false c9
        clear c9
        have H' := Aside0.mk H
        clear H
        go_wp2
        go_meet
        case rel => exact ⟨_, ((t448 != false)), (by first | rfl | (simp; done) | (simp [*]; done)), H', ⟨by first | omega | exact Nat.le_refl _⟩, ⟨by repeat (first | (with_reducible first | exact HB.out | apply below_alloc | apply pw_below_drewN | apply below_drew1) | exact HB.out)⟩⟩
    · rw [if_neg c8] at H
      have c8b0 : decide ((-719162) ≤ a0) = false := decide_eq_false c8
      clear c8
      (first | rw [c8b0] | (simp only [i64_w, i32_w]; rw [c8b0]) | skip)
      have H' := Aside0.mk H
      clear H
      go_wp2
      go_meet
      case rel => exact ⟨_, ((t448 != false)), (by first | rfl | (simp; done) | (simp [*]; done)), H', ⟨by first | omega | exact Nat.le_refl _⟩, ⟨by repeat (first | (with_reducible first | exact HB.out | apply below_alloc | apply pw_below_drewN | apply below_drew1) | exact HB.out)⟩⟩
  case rest =>
    clear HC5
    try clear c1
    try clear p2
    try clear c7
    try clear c8
    try clear c8b0
    try clear c9
    try clear c9b0
    try clear c10
    try clear c10b0
    obtain ⟨kq, x34_4, rfl, HA, HJ4, HB⟩ := hcut
    cases kq with
    | zero => exact absurd HA.out (by simp [epactlaw23_PosixDays.j0])
    | succ kj4 =>
      have H := HA.out
      clear HA
      simp only [epactlaw23_PosixDays.j0] at H
      by_cases c11 : x34_4 = true
      · subst c11
        have H1 : (none) = some r := by rw [if_pos rfl] at H; exact H
        clear H
        have H := H1
        clear H1
        exact absurd H (by simp)
      · replace c11 := Bool.eq_false_iff.mpr c11
        subst c11
        have H1 : (if t448 = true then ((posix_Day.f t447).bind fun bt449 => ((posix_Of.f a0 (mn a1 86399)).bind fun bt451 => (if t446 = true then (if bt449.1 = a0 then (if bt449.2 = (mn a1 86399) then (some (bt451.1 == t447)) else (none)) else (none)) else (none)))) else (if t446 = true then (some (t447 == 0)) else (none))) = some r := by rw [if_neg (show ¬ (false = true) by decide)] at H; exact H
        clear H
        have H := H1
        clear H1
        by_cases c12 : t448 = true
        · subst c12
          have H1 : ((posix_Day.f t447).bind fun bt449 => ((posix_Of.f a0 (mn a1 86399)).bind fun bt451 => (if t446 = true then (if bt449.1 = a0 then (if bt449.2 = (mn a1 86399) then (some (bt451.1 == t447)) else (none)) else (none)) else (none)))) = some r := by rw [if_pos rfl] at H; exact H
          clear H
          have H := H1
          clear H1
          replace H := Option.bind_eq_some_iff.mp H
          obtain ⟨⟨t449, t450⟩, A130, H⟩ := H
          replace H : ((posix_Of.f a0 (mn a1 86399)).bind fun bt451 => (if t446 = true then (if t449 = a0 then (if t450 = (mn a1 86399) then (some (bt451.1 == t447)) else (none)) else (none)) else (none))) = some r := H
          have A13 := Aside0.mk A130
          clear A130
          obtain ⟨ji14, hji14⟩ : ∃ j_ : Int, (mn a1 86399) = j_ := ⟨_, rfl⟩
          replace H : ((posix_Of.f a0 (ji14)).bind fun bt451 => (if t446 = true then (if t449 = a0 then (if t450 = (ji14) then (some (bt451.1 == t447)) else (none)) else (none)) else (none))) = some r := by first | (rw [hji14] at H; exact H) | (simp only [hji14] at H ⊢; exact H)
          (try rw [hji14] at A13)
          (try (have hji14h : ji14 ≤ 86399 := by (rw [← hji14]; unfold mn; (repeat' split) <;> omega)))
          (try (have hji14g : ji14 ≤ 64 := by omega))
          have hji14_ : (if 86399 < a1 then 86399 else a1) = ji14 := hji14
          replace H := Option.bind_eq_some_iff.mp H
          obtain ⟨⟨t451, t452⟩, A150, H⟩ := H
          replace H : (if t446 = true then (if t449 = a0 then (if t450 = (ji14) then (some (t451 == t447)) else (none)) else (none)) else (none)) = some r := H
          have A15 := Aside0.mk A150
          clear A150
          by_cases c16 : t446 = true
          · subst c16
            have H1 : (if t449 = a0 then (if t450 = (ji14) then (some (t451 == t447)) else (none)) else (none)) = some r := by rw [if_pos rfl] at H; exact H
            clear H
            have H := H1
            clear H1
            by_cases c17 : t449 = a0
            · rw [if_pos c17] at H
              have c17b0 : (t449 == a0) = true := beq_iff_eq.mpr c17
              have c17b1 : (t449 != a0) = false := bne_eq_false_iff_eq.mpr c17
              clear c17
              by_cases c19 : t450 = (ji14)
              · rw [if_pos c19] at H
                have c19b0 : (t450 == (ji14)) = true := beq_iff_eq.mpr c19
                have c19b1 : (t450 != (ji14)) = false := bne_eq_false_iff_eq.mpr c19
                clear c19
                obtain rfl := Option.some.inj H
                go_wp2_with (first | ((with_reducible refine gate_callee (f := 11) rfl ?_); refine goesL_ (some 44) rfl rfl Try.func11 (by kernel_rfl) rfl #[.int .i64 t447] rfl (by (try simp only [List.map_toArray, List.map_cons, List.map_nil]); first | done | rfl | (simp only [List.length_drop, List.length_take]; rfl)) ?_; (with_reducible refine (posix_Day.calls t447 t449 t450 _ A13.out).mono ?_); rintro e w' ⟨rfl, ⟨nd, rfl⟩⟩; refine ⟨_, rfl, ?_⟩) | ((with_reducible refine gate_callee (f := 9) rfl ?_); refine goesL_ (some 51) rfl rfl Try.func9 (by kernel_rfl) rfl #[.int .i64 a0, .int .i64 ji14] rfl (by (try simp only [List.map_toArray, List.map_cons, List.map_nil]); first | done | (simp only [hji14]; rfl) | rfl | (simp only [List.length_drop, List.length_take]; rfl)) ?_; (with_reducible refine (posix_Of.calls a0 ji14 t451 t452 _ A15.out).mono ?_); rintro e w20 ⟨rfl, hb⟩; refine ⟨_, rfl, ?_⟩; have n0_ := Aside0.mk (below_step (by repeat (first | (with_reducible first | exact HB.out | apply below_alloc | apply pw_below_drewN | apply below_drew1) | exact HB.out)) hb); clear HB; have HB := n0_; clear n0_; (try clear hb); (try clear hb2); (try clear hk); (try clear hi)))
                go_ret
                exact ⟨by first | rfl | (simp [errW_none, errW_some] <;> rfl) | (simp only [← hji14]; first | rfl | (simp [errW_none, errW_some] <;> rfl)) | (simp [*, errW_none, errW_some] <;> rfl), by repeat (first | (with_reducible first | exact HB.out | apply below_alloc | apply pw_below_drewN | apply below_drew1) | exact HB.out)⟩
              · rw [if_neg c19] at H
                exact absurd H (by simp)
            · rw [if_neg c17] at H
              exact absurd H (by simp)
          · replace c16 := Bool.eq_false_iff.mpr c16
            subst c16
            have H1 : (none) = some r := by rw [if_neg (show ¬ (false = true) by decide)] at H; exact H
            clear H
            have H := H1
            clear H1
            exact absurd H (by simp)
        · replace c12 := Bool.eq_false_iff.mpr c12
          subst c12
          have H1 : (if t446 = true then (some (t447 == 0)) else (none)) = some r := by rw [if_neg (show ¬ (false = true) by decide)] at H; exact H
          clear H
          have H := H1
          clear H1
          by_cases c21 : t446 = true
          · subst c21
            have H1 : (some (t447 == 0)) = some r := by rw [if_pos rfl] at H; exact H
            clear H
            have H := H1
            clear H1
            obtain rfl := Option.some.inj H
            go_wp2
            go_ret
            exact ⟨by first | rfl | (simp [errW_none, errW_some] <;> rfl) | (simp [*, errW_none, errW_some] <;> rfl), by repeat (first | (with_reducible first | exact HB.out | apply below_alloc | apply pw_below_drewN | apply below_drew1) | exact HB.out)⟩
          · replace c21 := Bool.eq_false_iff.mpr c21
            subst c21
            have H1 : (none) = some r := by rw [if_neg (show ¬ (false = true) by decide)] at H; exact H
            clear H
            have H := H1
            clear H1
            exact absurd H (by simp)

/-- THE ONE PURE STATEMENT of epactlaw23_PosixDays: yours. -/
def epactlaw23_PosixDays.Pure : Prop := ∀ (a0 : Int) (a1 : Int), (Lit.int .i64 a0).wf = true → (Lit.int .i64 a1).wf = true → ∃ k, epactlaw23_PosixDays.f k a0 a1 = some true
theorem epactlaw23_PosixDays.walk (P : epactlaw23_PosixDays.Pure) (a0 : Int) (a1 : Int) (w : World) (w0 : (Lit.int .i64 a0).wf = true) (w1 : (Lit.int .i64 a1).wf = true) :
    Calls Try.prog 7 #[.int .i64 a0, .int .i64 a1] w fun e w' => e = .returned (.bool true) ∧ Below w.heap.size w w' := by
  obtain ⟨k, h⟩ := P a0 a1 w0 w1
  refine (epactlaw23_PosixDays.calls k a0 a1 true w h).mono ?_
  rintro e w' ⟨rfl, hd⟩
  exact ⟨rfl, hd⟩

end Go.Proofs.Ytlfnkamhokfeaaa.PAll
