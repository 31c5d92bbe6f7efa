-- Written for this claim by wip/tools of this repo (after the kit's print; own contracts laid in).
import Derived.Test.YtpgkdagjlbcgkaaPAllx0
import Derived.Test.YtpgkdagjlbcgkaaPAllx1
import Derived.Test.YtpgkdagjlbcgkaaPAllx2
import Derived.Test.YtpgkdagjlbcgkaaPAllx3
namespace Go.Proofs.Ytpgkdagjlbcgkaa.PAll
open Go.RowKit Go.Proofs.YtpgkdagjlbcgkaaW.PrintWords Go.Proofs.YtpgkdagjlbcgkaaW.PrintLast Go.Proofs.YtpgkdagjlbcgkaaW.PrintMore
attribute [local go_sem] max2_int min2_int max_two min_two max_three min_three max_four min_four   -- for this text's walks alone
set_option linter.unusedVariables false
set_option linter.unusedSimpArgs false

/-! ### epactlaw04_StampBack: function 4 -/
mutual
def epactlaw04_StampBack.j0 : Nat → Int → Int → ByteArray → Bool → ByteArray → Bool → Bool → Option (Bool)
  | 0, _, _, _, _, _, _, _ => none
  | k + 1, x0, x1, x2, x7, x8, x9, x44 => if x44 = true then (none) else (if x9 = true then ((stamp_Parse.f k x8).bind fun bt231 => (if bt231.2.2 = true then (if bt231.1 = x0 then (if bt231.2.1 = x1 then (if (x8.size : Int) = 20 then (epactlaw04_StampBack.j1 k x2 x7 x8 x9) else (none)) else (none)) else (none)) else (none))) else (epactlaw04_StampBack.j1 k x2 x7 x8 x9))
def epactlaw04_StampBack.j1 : Nat → ByteArray → Bool → ByteArray → Bool → Option (Bool)
  | 0, _, _, _, _ => none
  | k + 1, x2, x7, x8, x9 => (stamp_Parse.f k x2).bind fun bt234 => (if bt234.2.2 = true then ((stamp_Text.f k bt234.1 bt234.2.1).bind fun bt237 => (if x7 = true then (if bt237.2 = true then (some (bt237.1.toList == x2.toList)) else (none)) else (none))) else (if x7 = true then (if bt234.1 = 0 then (if bt234.2.1 = 0 then (if x9 = true then (some true) else (some (x8.toList == ([] : List UInt8)))) else (none)) else (none)) else (none)))
end
def epactlaw04_StampBack.f (k : Nat) (a0 : Int) (a1 : Int) (a2 : ByteArray) : Option (Bool) := (epactlaw04_small.f k).bind fun t228 => (if (a2.size : Int) > 200 then (some t228) else ((stamp_Text.f k a0 a1).bind fun bt229 => (if a0 ≥ (-719162) then (if a0 ≤ 2932896 then (if a1 ≥ 0 then (epactlaw04_StampBack.j0 k a0 a1 a2 t228 bt229.1 bt229.2 (bt229.2 != (decide (a1 ≤ 86400)))) else (epactlaw04_StampBack.j0 k a0 a1 a2 t228 bt229.1 bt229.2 (bt229.2 != false))) else (epactlaw04_StampBack.j0 k a0 a1 a2 t228 bt229.1 bt229.2 (bt229.2 != false))) else (epactlaw04_StampBack.j0 k a0 a1 a2 t228 bt229.1 bt229.2 (bt229.2 != false)))))
theorem epactlaw04_StampBack.mono_l : ∀ k, (∀ y0 y1 y2 y3 y4 y5 y6, LeO (epactlaw04_StampBack.j0 k y0 y1 y2 y3 y4 y5 y6) (epactlaw04_StampBack.j0 (k + 1) y0 y1 y2 y3 y4 y5 y6)) ∧ (∀ y0 y1 y2 y3, LeO (epactlaw04_StampBack.j1 k y0 y1 y2 y3) (epactlaw04_StampBack.j1 (k + 1) y0 y1 y2 y3))
  | 0 => ⟨fun _ _ _ _ _ _ _ r h => by simp [epactlaw04_StampBack.j0] at h, fun _ _ _ _ r h => by simp [epactlaw04_StampBack.j1] at h⟩
  | k + 1 => by
    obtain ⟨ih0, ih1⟩ := epactlaw04_StampBack.mono_l k
    refine ⟨?_, ?_⟩
    · intro y0 y1 y2 y3 y4 y5 y6
      unfold epactlaw04_StampBack.j0
      repeat' first
      | (with_reducible exact ih0 _ _ _ _ _ _ _)
      | (with_reducible exact ih1 _ _ _ _)
      | (with_reducible exact epactlaw04_small.mono _)
      | (with_reducible exact stamp_Parse.mono _ _)
      | (with_reducible exact stamp_Text.mono _ _ _)
      | (with_reducible exact LeO.refl _)
      | (with_reducible exact LeO.none _)
      | (with_reducible refine LeO.ite ?_ ?_)
      | (with_reducible refine LeO.bind ?_ (fun _ => ?_))
      | exact ih0 _ _ _ _ _ _ _
      | exact ih1 _ _ _ _
      | exact epactlaw04_small.mono _
      | exact stamp_Parse.mono _ _
      | exact stamp_Text.mono _ _ _
      | exact LeO.none _
      | refine LeO.ite ?_ ?_
      | refine LeO.bind ?_ (fun _ => ?_)
    · intro y0 y1 y2 y3
      unfold epactlaw04_StampBack.j1
      repeat' first
      | (with_reducible exact ih0 _ _ _ _ _ _ _)
      | (with_reducible exact ih1 _ _ _ _)
      | (with_reducible exact epactlaw04_small.mono _)
      | (with_reducible exact stamp_Parse.mono _ _)
      | (with_reducible exact stamp_Text.mono _ _ _)
      | (with_reducible exact LeO.refl _)
      | (with_reducible exact LeO.none _)
      | (with_reducible refine LeO.ite ?_ ?_)
      | (with_reducible refine LeO.bind ?_ (fun _ => ?_))
      | exact ih0 _ _ _ _ _ _ _
      | exact ih1 _ _ _ _
      | exact epactlaw04_small.mono _
      | exact stamp_Parse.mono _ _
      | exact stamp_Text.mono _ _ _
      | exact LeO.none _
      | refine LeO.ite ?_ ?_
      | refine LeO.bind ?_ (fun _ => ?_)
theorem epactlaw04_StampBack.mono : ∀ a0 a1 a2 k, LeO (epactlaw04_StampBack.f k a0 a1 a2) (epactlaw04_StampBack.f (k + 1) a0 a1 a2) := by
  intro a0 a1 a2 k
  obtain ⟨ih0, ih1⟩ := epactlaw04_StampBack.mono_l k
  unfold epactlaw04_StampBack.f
  repeat' first
      | (with_reducible exact ih0 _ _ _ _ _ _ _)
      | (with_reducible exact ih1 _ _ _ _)
      | (with_reducible exact epactlaw04_small.mono _)
      | (with_reducible exact stamp_Parse.mono _ _)
      | (with_reducible exact stamp_Text.mono _ _ _)
      | (with_reducible exact LeO.refl _)
      | (with_reducible exact LeO.none _)
      | (with_reducible refine LeO.ite ?_ ?_)
      | (with_reducible refine LeO.bind ?_ (fun _ => ?_))
      | exact ih0 _ _ _ _ _ _ _
      | exact ih1 _ _ _ _
      | exact epactlaw04_small.mono _
      | exact stamp_Parse.mono _ _
      | exact stamp_Text.mono _ _ _
      | exact LeO.none _
      | refine LeO.ite ?_ ?_
      | refine LeO.bind ?_ (fun _ => ?_)
set_option maxHeartbeats 8000000 in
set_option maxRecDepth 100000 in
theorem epactlaw04_StampBack.calls (k : Nat) (a0 : Int) (a1 : Int) (a2 : ByteArray) (r : Bool) (w : World) (h : epactlaw04_StampBack.f k a0 a1 a2 = some r) :
    Calls Try.prog 4 #[.int .i64 a0, .int .i64 a1, .string a2] w fun e w' => e = .returned (.bool r) ∧ Below w.heap.size w w' := by
  have HB := Aside0.mk (Below.refl w.heap.size w)
  have H : ((epactlaw04_small.f k).bind fun t228 => (if (a2.size : Int) > 200 then (some t228) else ((stamp_Text.f k a0 a1).bind fun bt229 => (if a0 ≥ (-719162) then (if a0 ≤ 2932896 then (if a1 ≥ 0 then (epactlaw04_StampBack.j0 k a0 a1 a2 t228 bt229.1 bt229.2 (bt229.2 != (decide (a1 ≤ 86400)))) else (epactlaw04_StampBack.j0 k a0 a1 a2 t228 bt229.1 bt229.2 (bt229.2 != false))) else (epactlaw04_StampBack.j0 k a0 a1 a2 t228 bt229.1 bt229.2 (bt229.2 != false))) else (epactlaw04_StampBack.j0 k a0 a1 a2 t228 bt229.1 bt229.2 (bt229.2 != false)))))) = some r := h
  clear h
  replace H := Option.bind_eq_some_iff.mp H
  obtain ⟨t228, A40, H⟩ := H
  replace H : (if (a2.size : Int) > 200 then (some t228) else ((stamp_Text.f k a0 a1).bind fun bt229 => (if a0 ≥ (-719162) then (if a0 ≤ 2932896 then (if a1 ≥ 0 then (epactlaw04_StampBack.j0 k a0 a1 a2 t228 bt229.1 bt229.2 (bt229.2 != (decide (a1 ≤ 86400)))) else (epactlaw04_StampBack.j0 k a0 a1 a2 t228 bt229.1 bt229.2 (bt229.2 != false))) else (epactlaw04_StampBack.j0 k a0 a1 a2 t228 bt229.1 bt229.2 (bt229.2 != false))) else (epactlaw04_StampBack.j0 k a0 a1 a2 t228 bt229.1 bt229.2 (bt229.2 != false))))) = some r := H
  have A4 := Aside0.mk A40
  clear A40
  by_cases c5 : (a2.size : Int) > 200
  · rw [if_pos c5] at H
    have c5b0 : decide (200 < (a2.size : Int)) = true := decide_eq_true c5
    have c5b1 : decide (200 < a2.size) = true := decide_eq_true (by omega)
    clear c5
    obtain rfl := Option.some.inj H
    go_enter Try.func4, Try.ntmps4
    go_wp2_with (first | ((with_reducible refine gate_callee (f := 8) rfl ?_); refine goesL_ (some 18) rfl rfl Try.func8 (by kernel_rfl) rfl #[] rfl (by (try simp only [List.map_toArray, List.map_cons, List.map_nil]); first | done | rfl | (simp only [List.length_drop, List.length_take]; rfl)) ?_; (with_reducible refine (epactlaw04_small.calls k  t228 _ A4.out).mono ?_); rintro e w6 ⟨rfl, hb⟩; refine ⟨_, rfl, ?_⟩; have n0_ := Aside0.mk (below_step (by repeat (first | (with_reducible first | exact HB.out | apply below_alloc | apply pw_below_drewN | apply below_drew1) | exact HB.out)) hb); clear HB; have HB := n0_; clear n0_; (try clear hb); (try clear hb2); (try clear hk); (try clear hi)))
    go_ret
    exact ⟨by first | rfl | (simp [errW_none, errW_some] <;> rfl) | (simp [*, errW_none, errW_some] <;> rfl), by repeat (first | (with_reducible first | exact HB.out | apply below_alloc | apply pw_below_drewN | apply below_drew1) | exact HB.out)⟩
  · rw [if_neg c5] at H
    have c5b0 : decide (200 < (a2.size : Int)) = false := decide_eq_false c5
    have c5b1 : decide (200 < a2.size) = false := decide_eq_false (by omega)
    clear c5
    replace H := Option.bind_eq_some_iff.mp H
    obtain ⟨⟨t229, t230⟩, A70, H⟩ := H
    replace H : (if a0 ≥ (-719162) then (if a0 ≤ 2932896 then (if a1 ≥ 0 then (epactlaw04_StampBack.j0 k a0 a1 a2 t228 t229 t230 (t230 != (decide (a1 ≤ 86400)))) else (epactlaw04_StampBack.j0 k a0 a1 a2 t228 t229 t230 (t230 != false))) else (epactlaw04_StampBack.j0 k a0 a1 a2 t228 t229 t230 (t230 != false))) else (epactlaw04_StampBack.j0 k a0 a1 a2 t228 t229 t230 (t230 != false))) = some r := H
    have A7 := Aside0.mk A70
    clear A70
    have HC8 := Aside0.mk H
    clear H
    go_enter Try.func4, Try.ntmps4
    go_upto_region 5 with (first | ((with_reducible refine gate_callee (f := 8) rfl ?_); refine goesL_ (some 18) rfl rfl Try.func8 (by kernel_rfl) rfl #[] rfl (by (try simp only [List.map_toArray, List.map_cons, List.map_nil]); first | done | rfl | (simp only [List.length_drop, List.length_take]; rfl)) ?_; (with_reducible refine (epactlaw04_small.calls k  t228 _ A4.out).mono ?_); rintro e w9 ⟨rfl, hb⟩; refine ⟨_, rfl, ?_⟩; have n0_ := Aside0.mk (below_step (by repeat (first | (with_reducible first | exact HB.out | apply below_alloc | apply pw_below_drewN | apply below_drew1) | exact HB.out)) hb); clear HB; have HB := n0_; clear n0_; (try clear hb); (try clear hb2); (try clear hk); (try clear hi)) | ((with_reducible refine gate_callee (f := 13) rfl ?_); refine goesL_ (some 26) rfl rfl Try.func13 (by kernel_rfl) rfl #[.int .i64 a0, .int .i64 a1] rfl (by (try simp only [List.map_toArray, List.map_cons, List.map_nil]); first | done | rfl | (simp only [List.length_drop, List.length_take]; rfl)) ?_; (with_reducible refine (stamp_Text.calls k a0 a1 t229 t230 _ A7.out).mono ?_); rintro e w10 ⟨rfl, hb⟩; refine ⟨_, rfl, ?_⟩; have n0_ := Aside0.mk (below_step (by repeat (first | (with_reducible first | exact HB.out | apply below_alloc | apply pw_below_drewN | apply below_drew1) | exact HB.out)) hb); clear HB; have HB := n0_; clear n0_; (try clear hb); (try clear hb2); (try clear hk); (try clear hi)))
    (try simp only [Act.put, List.setIfInBounds_toArray, List.set_cons_zero, List.set_cons_succ])
    go_cut [44] (fun v44 wc => ∃ (kq : Nat) (x44_7 : Bool), v44 = .bool x44_7 ∧ Aside0 (epactlaw04_StampBack.j0 kq a0 a1 a2 t228 t229 t230 x44_7 = some r) ∧ Aside0 (kq ≤ k) ∧ Aside0 (Below w.heap.size w wc))
    case first =>
      have H := HC8.out
      clear HC8
      by_cases c11 : a0 ≥ (-719162)
      · rw [if_pos c11] at H
        have c11b0 : decide ((-719162) ≤ a0) = true := decide_eq_true c11
        clear c11
        (first | rw [c11b0] | (simp only [i64_w, i32_w]; rw [c11b0]) | skip)
        by_cases c12 : a0 ≤ 2932896
        · rw [if_pos c12] at H
          have c12b0 : decide (a0 ≤ 2932896) = true := decide_eq_true c12
          clear c12
          by_cases c13 : a1 ≥ 0
          · rw [if_pos c13] at H
            have c13b0 : decide (0 ≤ a1) = true := decide_eq_true c13
            clear c13
            have H' := Aside0.mk H
            clear H
            go_wp2
            go_meet
            case rel => exact ⟨_, ((t230 != (decide (a1 ≤ 86400)))), (by first | rfl | (simp; done) | (simp [*]; done)), H', ⟨by first | omega | exact Nat.le_refl _⟩, ⟨by repeat (first | (with_reducible first | exact HB.out | apply below_alloc | apply pw_below_drewN | apply below_drew1) | exact HB.out)⟩⟩
          · rw [if_neg c13] at H
            have c13b0 : decide (0 ≤ a1) = false := decide_eq_false c13
            clear c13
            have H' := Aside0.mk H
            clear H
            go_wp2
            go_meet
            case rel => exact ⟨_, ((t230 != false)), (by first | rfl | (simp; done) | (simp [*]; done)), H', ⟨by first | omega | exact Nat.le_refl _⟩, ⟨by repeat (first | (with_reducible first | exact HB.out | apply below_alloc | apply pw_below_drewN | apply below_drew1) | exact HB.out)⟩⟩
        · rw [if_neg c12] at H
          have c12b0 : decide (a0 ≤ 2932896) = false := decide_eq_false c12
          clear c12
          have H' := Aside0.mk H
          clear H
          go_wp2
          go_meet
          case rel => exact ⟨_, ((t230 != false)), (by first | rfl | (simp; done) | (simp [*]; done)), H', ⟨by first | omega | exact Nat.le_refl _⟩, ⟨by repeat (first | (with_reducible first | exact HB.out | apply below_alloc | apply pw_below_drewN | apply below_drew1) | exact HB.out)⟩⟩
      · rw [if_neg c11] at H
        have c11b0 : decide ((-719162) ≤ a0) = false := decide_eq_false c11
        clear c11
        (first | rw [c11b0] | (simp only [i64_w, i32_w]; rw [c11b0]) | skip)
        have H' := Aside0.mk H
        clear H
        go_wp2
        go_meet
        case rel => exact ⟨_, ((t230 != false)), (by first | rfl | (simp; done) | (simp [*]; done)), H', ⟨by first | omega | exact Nat.le_refl _⟩, ⟨by repeat (first | (with_reducible first | exact HB.out | apply below_alloc | apply pw_below_drewN | apply below_drew1) | exact HB.out)⟩⟩
    case rest =>
      clear HC8
      try clear c1
      try clear p2
      try clear c4
      try clear c5
      try clear c5b0
      try clear c5b1
      try clear c8
      try clear c11
      try clear c11b0
      try clear c12
      try clear c12b0
      try clear c13
      try clear c13b0
      obtain ⟨kq, x44_7, rfl, HA, HJ7, HB⟩ := hcut
      cases kq with
      | zero => exact absurd HA.out (by simp [epactlaw04_StampBack.j0])
      | succ kj7 =>
        have H := HA.out
        clear HA
        simp only [epactlaw04_StampBack.j0] at H
        by_cases c14 : x44_7 = true
        · subst c14
          have H1 : (none) = some r := by rw [if_pos rfl] at H; exact H
          clear H
          have H := H1
          clear H1
          exact absurd H (by simp)
        · replace c14 := Bool.eq_false_iff.mpr c14
          subst c14
          have H1 : (if t230 = true then ((stamp_Parse.f kj7 t229).bind fun bt231 => (if bt231.2.2 = true then (if bt231.1 = a0 then (if bt231.2.1 = a1 then (if (t229.size : Int) = 20 then (epactlaw04_StampBack.j1 kj7 a2 t228 t229 t230) else (none)) else (none)) else (none)) else (none))) else (epactlaw04_StampBack.j1 kj7 a2 t228 t229 t230)) = some r := by rw [if_neg (show ¬ (false = true) by decide)] at H; exact H
          clear H
          have H := H1
          clear H1
          have HC15 := Aside0.mk H
          clear H
          go_upto_if 45 with (fail)
          go_cut [] (fun wc => ∃ (kq : Nat), Aside0 (epactlaw04_StampBack.j1 kq a2 t228 t229 t230 = some r) ∧ Aside0 (kq ≤ kj7) ∧ Aside0 (Below w.heap.size w wc))
          case first =>
            have H := HC15.out
            clear HC15
            by_cases c16 : t230 = true
            · subst c16
              have H1 : ((stamp_Parse.f kj7 t229).bind fun bt231 => (if bt231.2.2 = true then (if bt231.1 = a0 then (if bt231.2.1 = a1 then (if (t229.size : Int) = 20 then (epactlaw04_StampBack.j1 kj7 a2 t228 t229 true) else (none)) else (none)) else (none)) else (none))) = some r := by rw [if_pos rfl] at H; exact H
              clear H
              have H := H1
              clear H1
              replace H := Option.bind_eq_some_iff.mp H
              obtain ⟨⟨t231, t232, t233⟩, A170, H⟩ := H
              replace H : (if t233 = true then (if t231 = a0 then (if t232 = a1 then (if (t229.size : Int) = 20 then (epactlaw04_StampBack.j1 kj7 a2 t228 t229 true) else (none)) else (none)) else (none)) else (none)) = some r := H
              have A17 := Aside0.mk A170
              clear A170
              by_cases c18 : t233 = true
              · subst c18
                have H1 : (if t231 = a0 then (if t232 = a1 then (if (t229.size : Int) = 20 then (epactlaw04_StampBack.j1 kj7 a2 t228 t229 true) else (none)) else (none)) else (none)) = some r := by rw [if_pos rfl] at H; exact H
                clear H
                have H := H1
                clear H1
                by_cases c19 : t231 = a0
                · rw [if_pos c19] at H
                  have c19b0 : (t231 == a0) = true := beq_iff_eq.mpr c19
                  have c19b1 : (t231 != a0) = false := bne_eq_false_iff_eq.mpr c19
                  clear c19
                  (first | rw [c19b0] | (simp only [i64_w, i32_w]; rw [c19b0]) | skip)
                  by_cases c20 : t232 = a1
                  · rw [if_pos c20] at H
                    have c20b0 : (t232 == a1) = true := beq_iff_eq.mpr c20
                    have c20b1 : (t232 != a1) = false := bne_eq_false_iff_eq.mpr c20
                    clear c20
                    by_cases c21 : (t229.size : Int) = 20
                    · rw [if_pos c21] at H
                      have c21b0 : ((t229.size : Int) == 20) = true := beq_iff_eq.mpr c21
                      have c21b1 : ((t229.size : Int) != 20) = false := bne_eq_false_iff_eq.mpr c21
                      clear c21
                      have H' := Aside0.mk H
                      clear H
                      go_wp2_with (first | ((with_reducible refine gate_callee (f := 15) rfl ?_); refine goesL_ (some 48) rfl rfl Try.func15 (by kernel_rfl) rfl #[.string t229] rfl (by (try simp only [List.map_toArray, List.map_cons, List.map_nil]); first | done | rfl | (simp only [List.length_drop, List.length_take]; rfl)) ?_; (with_reducible refine (stamp_Parse.calls kj7 t229 t231 t232 true _ A17.out).mono ?_); rintro e w22 ⟨rfl, hb⟩; refine ⟨_, rfl, ?_⟩; have n0_ := Aside0.mk (below_step (by repeat (first | (with_reducible first | exact HB.out | apply below_alloc | apply pw_below_drewN | apply below_drew1) | exact HB.out)) hb); clear HB; have HB := n0_; clear n0_; (try clear hb); (try clear hb2); (try clear hk); (try clear hi)))
                      go_meet
                      case rel => exact ⟨_, H', ⟨by have := HJ7.out; first | omega | exact Nat.le_refl _⟩, ⟨by repeat (first | (with_reducible first | exact HB.out | apply below_alloc | apply pw_below_drewN | apply below_drew1) | exact HB.out)⟩⟩
                    · rw [if_neg c21] at H
                      exact absurd H (by simp)
                  · rw [if_neg c20] at H
                    exact absurd H (by simp)
                · rw [if_neg c19] at H
                  exact absurd H (by simp)
              · replace c18 := Bool.eq_false_iff.mpr c18
                subst c18
                have H1 : (none) = some r := by rw [if_neg (show ¬ (false = true) by decide)] at H; exact H
                clear H
                have H := H1
                clear H1
                exact absurd H (by simp)
            · replace c16 := Bool.eq_false_iff.mpr c16
              subst c16
              have H1 : (epactlaw04_StampBack.j1 kj7 a2 t228 t229 false) = some r := by rw [if_neg (show ¬ (false = true) by decide)] at H; exact H
              clear H
              have H := H1
              clear H1
              have H' := Aside0.mk H
              clear H
              go_wp2
              go_meet
              case rel => exact ⟨_, H', ⟨by have := HJ7.out; first | omega | exact Nat.le_refl _⟩, ⟨by repeat (first | (with_reducible first | exact HB.out | apply below_alloc | apply pw_below_drewN | apply below_drew1) | exact HB.out)⟩⟩
          case rest =>
            clear HC15
            try clear c1
            try clear c2
            try clear p2
            try clear c4
            try clear c5
            try clear c5b0
            try clear c5b1
            try clear c8
            try clear c11
            try clear c11b0
            try clear c12
            try clear c12b0
            try clear c13
            try clear c13b0
            try clear c14
            try clear c15
            try clear c16
            try clear c18
            try clear c19
            try clear c19b0
            try clear c19b1
            try clear c20
            try clear c20b0
            try clear c20b1
            try clear c21
            try clear c21b0
            try clear c21b1
            try clear p2
            obtain ⟨kq, HA, HJ14, HB⟩ := hcut
            cases kq with
            | zero => exact absurd HA.out (by simp [epactlaw04_StampBack.j1])
            | succ kj14 =>
              have H := HA.out
              clear HA
              simp only [epactlaw04_StampBack.j1] at H
              replace H := Option.bind_eq_some_iff.mp H
              obtain ⟨⟨t234, t235, t236⟩, A230, H⟩ := H
              replace H : (if t236 = true then ((stamp_Text.f kj14 t234 t235).bind fun bt237 => (if t228 = true then (if bt237.2 = true then (some (bt237.1.toList == a2.toList)) else (none)) else (none))) else (if t228 = true then (if t234 = 0 then (if t235 = 0 then (if t230 = true then (some true) else (some (t229.toList == ([] : List UInt8)))) else (none)) else (none)) else (none))) = some r := H
              have A23 := Aside0.mk A230
              clear A230
              by_cases c24 : t236 = true
              · subst c24
                have H1 : ((stamp_Text.f kj14 t234 t235).bind fun bt237 => (if t228 = true then (if bt237.2 = true then (some (bt237.1.toList == a2.toList)) else (none)) else (none))) = some r := by rw [if_pos rfl] at H; exact H
                clear H
                have H := H1
                clear H1
                replace H := Option.bind_eq_some_iff.mp H
                obtain ⟨⟨t237, t238⟩, A250, H⟩ := H
                replace H : (if t228 = true then (if t238 = true then (some (t237.toList == a2.toList)) else (none)) else (none)) = some r := H
                have A25 := Aside0.mk A250
                clear A250
                by_cases c26 : t228 = true
                · subst c26
                  have H1 : (if t238 = true then (some (t237.toList == a2.toList)) else (none)) = some r := by rw [if_pos rfl] at H; exact H
                  clear H
                  have H := H1
                  clear H1
                  by_cases c27 : t238 = true
                  · subst c27
                    have H1 : (some (t237.toList == a2.toList)) = some r := by rw [if_pos rfl] at H; exact H
                    clear H
                    have H := H1
                    clear H1
                    obtain rfl := Option.some.inj H
                    go_wp2_with (first | ((with_reducible refine gate_callee (f := 15) rfl ?_); refine goesL_ (some 71) rfl rfl Try.func15 (by kernel_rfl) rfl #[.string a2] rfl (by (try simp only [List.map_toArray, List.map_cons, List.map_nil]); first | done | rfl | (simp only [List.length_drop, List.length_take]; rfl)) ?_; (with_reducible refine (stamp_Parse.calls kj14 a2 t234 t235 true _ A23.out).mono ?_); rintro e w28 ⟨rfl, hb⟩; refine ⟨_, rfl, ?_⟩; have n0_ := Aside0.mk (below_step (by repeat (first | (with_reducible first | exact HB.out | apply below_alloc | apply pw_below_drewN | apply below_drew1) | exact HB.out)) hb); clear HB; have HB := n0_; clear n0_; (try clear hb); (try clear hb2); (try clear hk); (try clear hi)) | ((with_reducible refine gate_callee (f := 13) rfl ?_); refine goesL_ (some 79) rfl rfl Try.func13 (by kernel_rfl) rfl #[.int .i64 t234, .int .i64 t235] rfl (by (try simp only [List.map_toArray, List.map_cons, List.map_nil]); first | done | rfl | (simp only [List.length_drop, List.length_take]; rfl)) ?_; (with_reducible refine (stamp_Text.calls kj14 t234 t235 t237 true _ A25.out).mono ?_); rintro e w29 ⟨rfl, hb⟩; refine ⟨_, rfl, ?_⟩; have n0_ := Aside0.mk (below_step (by repeat (first | (with_reducible first | exact HB.out | apply below_alloc | apply pw_below_drewN | apply below_drew1) | exact HB.out)) hb); clear HB; have HB := n0_; clear n0_; (try clear hb); (try clear hb2); (try clear hk); (try clear hi)))
                    go_ret
                    exact ⟨by first | rfl | (simp [errW_none, errW_some] <;> rfl) | (simp [*, errW_none, errW_some] <;> rfl), by repeat (first | (with_reducible first | exact HB.out | apply below_alloc | apply pw_below_drewN | apply below_drew1) | exact HB.out)⟩
                  · replace c27 := Bool.eq_false_iff.mpr c27
                    subst c27
                    have H1 : (none) = some r := by rw [if_neg (show ¬ (false = true) by decide)] at H; exact H
                    clear H
                    have H := H1
                    clear H1
                    exact absurd H (by simp)
                · replace c26 := Bool.eq_false_iff.mpr c26
                  subst c26
                  have H1 : (none) = some r := by rw [if_neg (show ¬ (false = true) by decide)] at H; exact H
                  clear H
                  have H := H1
                  clear H1
                  exact absurd H (by simp)
              · replace c24 := Bool.eq_false_iff.mpr c24
                subst c24
                have H1 : (if t228 = true then (if t234 = 0 then (if t235 = 0 then (if t230 = true then (some true) else (some (t229.toList == ([] : List UInt8)))) else (none)) else (none)) else (none)) = some r := by rw [if_neg (show ¬ (false = true) by decide)] at H; exact H
                clear H
                have H := H1
                clear H1
                by_cases c30 : t228 = true
                · subst c30
                  have H1 : (if t234 = 0 then (if t235 = 0 then (if t230 = true then (some true) else (some (t229.toList == ([] : List UInt8)))) else (none)) else (none)) = some r := by rw [if_pos rfl] at H; exact H
                  clear H
                  have H := H1
                  clear H1
                  by_cases c31 : t234 = 0
                  · rw [if_pos c31] at H
                    have c31b0 : (t234 == 0) = true := beq_iff_eq.mpr c31
                    have c31b1 : (t234 != 0) = false := bne_eq_false_iff_eq.mpr c31
                    clear c31
                    by_cases c32 : t235 = 0
                    · rw [if_pos c32] at H
                      have c32b0 : (t235 == 0) = true := beq_iff_eq.mpr c32
                      have c32b1 : (t235 != 0) = false := bne_eq_false_iff_eq.mpr c32
                      clear c32
                      by_cases c33 : t230 = true
                      · subst c33
                        have H1 : (some true) = some r := by rw [if_pos rfl] at H; exact H
                        clear H
                        have H := H1
                        clear H1
                        obtain rfl := Option.some.inj H
                        go_wp2_with (first | ((with_reducible refine gate_callee (f := 15) rfl ?_); refine goesL_ (some 71) rfl rfl Try.func15 (by kernel_rfl) rfl #[.string a2] rfl (by (try simp only [List.map_toArray, List.map_cons, List.map_nil]); first | done | rfl | (simp only [List.length_drop, List.length_take]; rfl)) ?_; (with_reducible refine (stamp_Parse.calls kj14 a2 t234 t235 false _ A23.out).mono ?_); rintro e w34 ⟨rfl, hb⟩; refine ⟨_, rfl, ?_⟩; have n0_ := Aside0.mk (below_step (by repeat (first | (with_reducible first | exact HB.out | apply below_alloc | apply pw_below_drewN | apply below_drew1) | exact HB.out)) hb); clear HB; have HB := n0_; clear n0_; (try clear hb); (try clear hb2); (try clear hk); (try clear hi)))
                        go_ret
                        exact ⟨by first | rfl | (simp [errW_none, errW_some] <;> rfl) | (simp [*, errW_none, errW_some] <;> rfl), by repeat (first | (with_reducible first | exact HB.out | apply below_alloc | apply pw_below_drewN | apply below_drew1) | exact HB.out)⟩
                      · replace c33 := Bool.eq_false_iff.mpr c33
                        subst c33
                        have H1 : (some (t229.toList == ([] : List UInt8))) = some r := by rw [if_neg (show ¬ (false = true) by decide)] at H; exact H
                        clear H
                        have H := H1
                        clear H1
                        obtain rfl := Option.some.inj H
                        go_wp2_with (first | ((with_reducible refine gate_callee (f := 15) rfl ?_); refine goesL_ (some 71) rfl rfl Try.func15 (by kernel_rfl) rfl #[.string a2] rfl (by (try simp only [List.map_toArray, List.map_cons, List.map_nil]); first | done | rfl | (simp only [List.length_drop, List.length_take]; rfl)) ?_; (with_reducible refine (stamp_Parse.calls kj14 a2 t234 t235 false _ A23.out).mono ?_); rintro e w35 ⟨rfl, hb⟩; refine ⟨_, rfl, ?_⟩; have n0_ := Aside0.mk (below_step (by repeat (first | (with_reducible first | exact HB.out | apply below_alloc | apply pw_below_drewN | apply below_drew1) | exact HB.out)) hb); clear HB; have HB := n0_; clear n0_; (try clear hb); (try clear hb2); (try clear hk); (try clear hi)))
                        go_ret
                        exact ⟨by first | rfl | (simp [errW_none, errW_some] <;> rfl) | (simp [*, errW_none, errW_some] <;> rfl), by repeat (first | (with_reducible first | exact HB.out | apply below_alloc | apply pw_below_drewN | apply below_drew1) | exact HB.out)⟩
                    · rw [if_neg c32] at H
                      exact absurd H (by simp)
                  · rw [if_neg c31] at H
                    exact absurd H (by simp)
                · replace c30 := Bool.eq_false_iff.mpr c30
                  subst c30
                  have H1 : (none) = some r := by rw [if_neg (show ¬ (false = true) by decide)] at H; exact H
                  clear H
                  have H := H1
                  clear H1
                  exact absurd H (by simp)

/-- THE ONE PURE STATEMENT of epactlaw04_StampBack: yours. -/
def epactlaw04_StampBack.Pure : Prop := ∀ (a0 : Int) (a1 : Int) (a2 : ByteArray), (Lit.int .i64 a0).wf = true → (Lit.int .i64 a1).wf = true → a2.size ≤ 140737488351232 → ∃ k, epactlaw04_StampBack.f k a0 a1 a2 = some true
theorem epactlaw04_StampBack.walk (P : epactlaw04_StampBack.Pure) (a0 : Int) (a1 : Int) (a2 : ByteArray) (w : World) (w0 : (Lit.int .i64 a0).wf = true) (w1 : (Lit.int .i64 a1).wf = true) (w2 : a2.size ≤ 140737488351232) :
    Calls Try.prog 4 #[.int .i64 a0, .int .i64 a1, .string a2] w fun e w' => e = .returned (.bool true) ∧ Below w.heap.size w w' := by
  obtain ⟨k, h⟩ := P a0 a1 a2 w0 w1 w2
  refine (epactlaw04_StampBack.calls k a0 a1 a2 true w h).mono ?_
  rintro e w' ⟨rfl, hd⟩
  exact ⟨rfl, hd⟩

end Go.Proofs.Ytpgkdagjlbcgkaa.PAll
