-- Written for this claim by wip/tools of this repo (after the kit's print; own contracts laid in).
import Derived.Test.YtpgkdagjlbcgkaaPAllx0
import Derived.Test.YtpgkdagjlbcgkaaPAllx3
namespace Go.Proofs.Ytpgkdagjlbcgkaa.PAll
open Go.RowKit Go.Proofs.YtpgkdagjlbcgkaaW.PrintWords Go.Proofs.YtpgkdagjlbcgkaaW.PrintLast Go.Proofs.YtpgkdagjlbcgkaaW.PrintMore
attribute [local go_sem] max2_int min2_int max_two min_two max_three min_three max_four min_four   -- for this text's walks alone
set_option linter.unusedVariables false
set_option linter.unusedSimpArgs false

/-! ### epactref03_Date: function 26 -/
mutual
def epactref03_Date.j0 : Nat → Int → Bool → Option (Int × Int × Int × Bool)
  | 0, _, _ => none
  | k + 1, x0, x14 => if x14 = true then (some (0, 0, 0, false)) else (epactref03_Date.l0 k x0 (wrap64 ((wrap64 (Int.tdiv (wrap64 (x0 - (-719162))) 366)) + 1)))
def epactref03_Date.l0 : Nat → Int → Int → Option (Int × Int × Int × Bool)
  | 0, _, _ => none
  | k + 1, x0, x6 => (epactref03_first.f (wrap64 (x6 + 1))).bind fun t164 => (if t164 ≤ x0 then (epactref03_Date.l0 k x0 (wrap64 (x6 + 1))) else ((epactref03_first.f x6).bind fun t165 => (epactref03_Date.l1 k x6 (wrap64 (x0 - t165)) 1)))
def epactref03_Date.l1 : Nat → Int → Int → Int → Option (Int × Int × Int × Bool)
  | 0, _, _, _ => none
  | k + 1, x6, x7, x8 => (epactref03_days.f x6 x8).bind fun t166 => (if x7 ≥ t166 then ((epactref03_days.f x6 x8).bind fun t167 => (epactref03_Date.l1 k x6 (wrap64 (x7 - t167)) (wrap64 (x8 + 1)))) else (some (x6, x8, wrap64 (x7 + 1), true)))
end
def epactref03_Date.f (k : Nat) (a0 : Int) : Option (Int × Int × Int × Bool) := if a0 < (-719162) then (epactref03_Date.j0 k a0 true) else (epactref03_Date.j0 k a0 (decide (a0 > 2932896)))
theorem epactref03_Date.mono_l : ∀ k, (∀ y0 y1, LeO (epactref03_Date.j0 k y0 y1) (epactref03_Date.j0 (k + 1) y0 y1)) ∧ (∀ y0 y1, LeO (epactref03_Date.l0 k y0 y1) (epactref03_Date.l0 (k + 1) y0 y1)) ∧ (∀ y0 y1 y2, LeO (epactref03_Date.l1 k y0 y1 y2) (epactref03_Date.l1 (k + 1) y0 y1 y2))
  | 0 => ⟨fun _ _ r h => by simp [epactref03_Date.j0] at h, fun _ _ r h => by simp [epactref03_Date.l0] at h, fun _ _ _ r h => by simp [epactref03_Date.l1] at h⟩
  | k + 1 => by
    obtain ⟨ih0, ih1, ih2⟩ := epactref03_Date.mono_l k
    refine ⟨?_, ?_, ?_⟩
    · intro y0 y1
      unfold epactref03_Date.j0
      repeat' first
      | (with_reducible exact ih0 _ _)
      | (with_reducible exact ih1 _ _)
      | (with_reducible exact ih2 _ _ _)
      | (with_reducible exact LeO.refl _)
      | (with_reducible exact LeO.none _)
      | (with_reducible refine LeO.ite ?_ ?_)
      | (with_reducible refine LeO.bind ?_ (fun _ => ?_))
      | exact ih0 _ _
      | exact ih1 _ _
      | exact ih2 _ _ _
      | exact LeO.none _
      | refine LeO.ite ?_ ?_
      | refine LeO.bind ?_ (fun _ => ?_)
    · intro y0 y1
      unfold epactref03_Date.l0
      repeat' first
      | (with_reducible exact ih0 _ _)
      | (with_reducible exact ih1 _ _)
      | (with_reducible exact ih2 _ _ _)
      | (with_reducible exact LeO.refl _)
      | (with_reducible exact LeO.none _)
      | (with_reducible refine LeO.ite ?_ ?_)
      | (with_reducible refine LeO.bind ?_ (fun _ => ?_))
      | exact ih0 _ _
      | exact ih1 _ _
      | exact ih2 _ _ _
      | exact LeO.none _
      | refine LeO.ite ?_ ?_
      | refine LeO.bind ?_ (fun _ => ?_)
    · intro y0 y1 y2
      unfold epactref03_Date.l1
      repeat' first
      | (with_reducible exact ih0 _ _)
      | (with_reducible exact ih1 _ _)
      | (with_reducible exact ih2 _ _ _)
      | (with_reducible exact LeO.refl _)
      | (with_reducible exact LeO.none _)
      | (with_reducible refine LeO.ite ?_ ?_)
      | (with_reducible refine LeO.bind ?_ (fun _ => ?_))
      | exact ih0 _ _
      | exact ih1 _ _
      | exact ih2 _ _ _
      | exact LeO.none _
      | refine LeO.ite ?_ ?_
      | refine LeO.bind ?_ (fun _ => ?_)
theorem epactref03_Date.mono : ∀ a0 k, LeO (epactref03_Date.f k a0) (epactref03_Date.f (k + 1) a0) := by
  intro a0 k
  obtain ⟨ih0, ih1, ih2⟩ := epactref03_Date.mono_l k
  unfold epactref03_Date.f
  repeat' first
      | (with_reducible exact ih0 _ _)
      | (with_reducible exact ih1 _ _)
      | (with_reducible exact ih2 _ _ _)
      | (with_reducible exact LeO.refl _)
      | (with_reducible exact LeO.none _)
      | (with_reducible refine LeO.ite ?_ ?_)
      | (with_reducible refine LeO.bind ?_ (fun _ => ?_))
      | exact ih0 _ _
      | exact ih1 _ _
      | exact ih2 _ _ _
      | exact LeO.none _
      | refine LeO.ite ?_ ?_
      | refine LeO.bind ?_ (fun _ => ?_)
set_option maxHeartbeats 8000000 in
set_option maxRecDepth 100000 in
theorem epactref03_Date.calls (k : Nat) (a0 : Int) (r1 : Int) (r2 : Int) (r3 : Int) (r4 : Bool) (w : World) (h : epactref03_Date.f k a0 = some (r1, r2, r3, r4)) :
    Calls Try.prog 26 #[.int .i64 a0] w fun e w' => e = .returned (.tuple #[.int .i64 r1, .int .i64 r2, .int .i64 r3, .bool r4]) ∧ Below w.heap.size w w' := by
  have HB := Aside0.mk (Below.refl w.heap.size w)
  have H : (if a0 < (-719162) then (epactref03_Date.j0 k a0 true) else (epactref03_Date.j0 k a0 (decide (a0 > 2932896)))) = some (r1, r2, r3, r4) := h
  clear h
  have HC2 := Aside0.mk H
  clear H
  go_enter Try.func26, Try.ntmps26
  go_upto_region 1 with (fail)
  go_cut [14] (fun v14 wc => ∃ (kq : Nat) (x14_1 : Bool), v14 = .bool x14_1 ∧ Aside0 (epactref03_Date.j0 kq a0 x14_1 = some (r1, r2, r3, r4)) ∧ Aside0 (kq ≤ k) ∧ Aside0 (Below w.heap.size w wc))
  case first =>
    have H := HC2.out
    clear HC2
    by_cases c3 : a0 < (-719162)
    · rw [if_pos c3] at H
      have c3b0 : decide (a0 < (-719162)) = true := decide_eq_true c3
      clear c3
      (first | rw [c3b0] | (simp only [i64_w, i32_w]; rw [c3b0]) | skip)
      have H' := Aside0.mk H
      clear H
      go_wp2
      go_meet
      case rel => exact ⟨_, (true), (by first | rfl | (simp; done) | (simp [*]; done)), H', ⟨by first | omega | exact Nat.le_refl _⟩, ⟨by repeat (first | (with_reducible first | exact HB.out | apply below_alloc | apply pw_below_drewN | apply below_drew1) | exact HB.out)⟩⟩
    · rw [if_neg c3] at H
      have c3b0 : decide (a0 < (-719162)) = false := decide_eq_false c3
      clear c3
      (first | rw [c3b0] | (simp only [i64_w, i32_w]; rw [c3b0]) | skip)
      have H' := Aside0.mk H
      clear H
      go_wp2
      go_meet
      case rel => exact ⟨_, (decide (a0 > 2932896)), (by first | rfl | (simp; done) | (simp [*]; done)), H', ⟨by first | omega | exact Nat.le_refl _⟩, ⟨by repeat (first | (with_reducible first | exact HB.out | apply below_alloc | apply pw_below_drewN | apply below_drew1) | exact HB.out)⟩⟩
  case rest =>
    clear HC2
    try clear c2
    try clear p2
    try clear c3
    try clear c3b0
    obtain ⟨kq, x14_1, rfl, HA, HJ1, HB⟩ := hcut
    cases kq with
    | zero => exact absurd HA.out (by simp [epactref03_Date.j0])
    | succ kj1 =>
      have H := HA.out
      clear HA
      simp only [epactref03_Date.j0] at H
      by_cases c4 : x14_1 = true
      · subst c4
        have H1 : (some (0, 0, 0, false)) = some (r1, r2, r3, r4) := by rw [if_pos rfl] at H; exact H
        clear H
        have H := H1
        clear H1
        simp only [Option.some.injEq, Prod.mk.injEq] at H
        obtain ⟨rfl, rfl, rfl, rfl⟩ := H
        go_wp2
        refine bodyPost_ret (results_list (rs := [.tmp 2, .tmp 3, .tmp 4, .tmp 5]) rfl (by simp) (.tmp (.tmp (.tmp (.tmp .nil))))) rfl ?_
        exact ⟨by first | rfl | (simp [errW_none, errW_some] <;> rfl) | (simp [*, errW_none, errW_some] <;> rfl), by repeat (first | (with_reducible first | exact HB.out | apply below_alloc | apply pw_below_drewN | apply below_drew1) | exact HB.out)⟩
      · replace c4 := Bool.eq_false_iff.mpr c4
        subst c4
        have H1 : (epactref03_Date.l0 kj1 a0 (wrap64 ((wrap64 (Int.tdiv (wrap64 (a0 - (-719162))) 366)) + 1))) = some (r1, r2, r3, r4) := by rw [if_neg (show ¬ (false = true) by decide)] at H; exact H
        clear H
        have H := H1
        clear H1
        have H' := Aside0.mk H
        clear H
        go_wp2
        go_loopg [6] kj1 (fun kq v6 w' => ∃ (x6_2 : Int), v6 = .int .i64 x6_2 ∧ Aside0 (epactref03_Date.l0 kq a0 x6_2 = some (r1, r2, r3, r4)) ∧ Aside0 (kq ≤ kj1) ∧ Aside0 (Below w.heap.size w w'))
        case atStart => exact ⟨(wrap64 ((wrap64 (Int.tdiv (wrap64 (a0 - (-719162))) 366)) + 1)), (by first | rfl | (simp; done) | (simp [*]; done)), H', ⟨Nat.le_refl _⟩, ⟨by repeat (first | (with_reducible first | exact HB.out | apply below_alloc | apply pw_below_drewN | apply below_drew1) | exact HB.out)⟩⟩
        case round =>
          clear H'
          try clear c2
          try clear p2
          try clear c3
          try clear c3b0
          try clear c4
          try clear p2
          obtain ⟨x6_2, rfl, HA, HK2, HB⟩ := hrel
          cases gk with
          | zero => exact absurd HA.out (by simp [epactref03_Date.l0])
          | succ k2 =>
            have H := HA.out
            clear HA
            simp only [epactref03_Date.l0] at H
            replace H := Option.bind_eq_some_iff.mp H
            obtain ⟨t164, A50, H⟩ := H
            replace H : (if t164 ≤ a0 then (epactref03_Date.l0 k2 a0 (wrap64 (x6_2 + 1))) else ((epactref03_first.f x6_2).bind fun t165 => (epactref03_Date.l1 k2 x6_2 (wrap64 (a0 - t165)) 1))) = some (r1, r2, r3, r4) := H
            have A5 := Aside0.mk A50
            clear A50
            by_cases c6 : t164 ≤ a0
            · rw [if_pos c6] at H
              have c6b0 : decide (t164 ≤ a0) = true := decide_eq_true c6
              clear c6
              have H' := Aside0.mk H
              clear H
              go_wp2_with (first | ((with_reducible refine gate_callee (f := 30) rfl ?_); refine goesL_ (some 21) rfl rfl Try.func30 (by kernel_rfl) rfl #[.int .i64 (wrap64 (x6_2 + 1))] rfl (by (try simp only [List.map_toArray, List.map_cons, List.map_nil]); first | done | rfl | (simp only [List.length_drop, List.length_take]; rfl)) ?_; (with_reducible refine (epactref03_first.calls (wrap64 (x6_2 + 1)) t164 _ A5.out).mono ?_); rintro e w' ⟨rfl, ⟨nd, rfl⟩⟩; refine ⟨_, rfl, ?_⟩))
              go_roundg k2
              case measure => have := HJ1.out; have := HK2.out; omega
              case rel => exact ⟨(wrap64 (x6_2 + 1)), (by first | rfl | (simp; done) | (simp [*]; done)), H', ⟨by have := HJ1.out; have := HK2.out; omega⟩, ⟨by repeat (first | (with_reducible first | exact HB.out | apply below_alloc | apply pw_below_drewN | apply below_drew1) | exact HB.out)⟩⟩
            · rw [if_neg c6] at H
              have c6b0 : decide (t164 ≤ a0) = false := decide_eq_false c6
              clear c6
              replace H := Option.bind_eq_some_iff.mp H
              obtain ⟨t165, A70, H⟩ := H
              replace H : (epactref03_Date.l1 k2 x6_2 (wrap64 (a0 - t165)) 1) = some (r1, r2, r3, r4) := H
              have A7 := Aside0.mk A70
              clear A70
              have H' := Aside0.mk H
              clear H
              go_wp2_with (first | ((with_reducible refine gate_callee (f := 30) rfl ?_); refine goesL_ (some 21) rfl rfl Try.func30 (by kernel_rfl) rfl #[.int .i64 (wrap64 (x6_2 + 1))] rfl (by (try simp only [List.map_toArray, List.map_cons, List.map_nil]); first | done | rfl | (simp only [List.length_drop, List.length_take]; rfl)) ?_; (with_reducible refine (epactref03_first.calls (wrap64 (x6_2 + 1)) t164 _ A5.out).mono ?_); rintro e w' ⟨rfl, ⟨nd, rfl⟩⟩; refine ⟨_, rfl, ?_⟩) | ((with_reducible refine gate_callee (f := 30) rfl ?_); refine goesL_ (some 28) rfl rfl Try.func30 (by kernel_rfl) rfl #[.int .i64 x6_2] rfl (by (try simp only [List.map_toArray, List.map_cons, List.map_nil]); first | done | rfl | (simp only [List.length_drop, List.length_take]; rfl)) ?_; (with_reducible refine (epactref03_first.calls x6_2 t165 _ A7.out).mono ?_); rintro e w' ⟨rfl, ⟨nd, rfl⟩⟩; refine ⟨_, rfl, ?_⟩))
              go_loopg [7, 8] k2 (fun kq v7 v8 w' => ∃ (x7_3 : Int) (x8_3 : Int), v7 = .int .i64 x7_3 ∧ v8 = .int .i64 x8_3 ∧ Aside0 (epactref03_Date.l1 kq x6_2 x7_3 x8_3 = some (r1, r2, r3, r4)) ∧ Aside0 (kq ≤ k2) ∧ Aside0 (Below w.heap.size w w'))
              case atStart => exact ⟨(wrap64 (a0 - t165)), (1), (by first | rfl | (simp; done) | (simp [*]; done)), (by first | rfl | (simp; done) | (simp [*]; done)), H', ⟨Nat.le_refl _⟩, ⟨by repeat (first | (with_reducible first | exact HB.out | apply below_alloc | apply pw_below_drewN | apply below_drew1) | exact HB.out)⟩⟩
              case round =>
                clear H'
                try clear c2
                try clear p2
                try clear c3
                try clear c3b0
                try clear c4
                try clear c6
                try clear c6b0
                try clear p6
                try clear p2
                obtain ⟨x7_3, x8_3, rfl, rfl, HA, HK3, HB⟩ := hrel
                cases gk with
                | zero => exact absurd HA.out (by simp [epactref03_Date.l1])
                | succ k3 =>
                  have H := HA.out
                  clear HA
                  simp only [epactref03_Date.l1] at H
                  replace H := Option.bind_eq_some_iff.mp H
                  obtain ⟨t166, A80, H⟩ := H
                  replace H : (if x7_3 ≥ t166 then ((epactref03_days.f x6_2 x8_3).bind fun t167 => (epactref03_Date.l1 k3 x6_2 (wrap64 (x7_3 - t167)) (wrap64 (x8_3 + 1)))) else (some (x6_2, x8_3, wrap64 (x7_3 + 1), true))) = some (r1, r2, r3, r4) := H
                  have A8 := Aside0.mk A80
                  clear A80
                  by_cases c9 : x7_3 ≥ t166
                  · rw [if_pos c9] at H
                    have c9b0 : decide (t166 ≤ x7_3) = true := decide_eq_true c9
                    clear c9
                    replace H := Option.bind_eq_some_iff.mp H
                    obtain ⟨t167, A100, H⟩ := H
                    replace H : (epactref03_Date.l1 k3 x6_2 (wrap64 (x7_3 - t167)) (wrap64 (x8_3 + 1))) = some (r1, r2, r3, r4) := H
                    have A10 := Aside0.mk A100
                    clear A100
                    (try (obtain rfl : t167 = t166 := Option.some.inj (A10.out.symm.trans A8.out)))
                    have H' := Aside0.mk H
                    clear H
                    go_wp2_with (first | ((with_reducible refine gate_callee (f := 31) rfl ?_); refine goesL_ (some 33) rfl rfl Try.func31 (by kernel_rfl) rfl #[.int .i64 x6_2, .int .i64 x8_3] rfl (by (try simp only [List.map_toArray, List.map_cons, List.map_nil]); first | done | rfl | (simp only [List.length_drop, List.length_take]; rfl)) ?_; (with_reducible refine (epactref03_days.calls x6_2 x8_3 t167 _ A8.out).mono ?_); rintro e w11 ⟨rfl, hb⟩; refine ⟨_, rfl, ?_⟩; have n0_ := Aside0.mk (below_step (by repeat (first | (with_reducible first | exact HB.out | apply below_alloc | apply pw_below_drewN | apply below_drew1) | exact HB.out)) hb); clear HB; have HB := n0_; clear n0_; (try clear hb); (try clear hb2); (try clear hk); (try clear hi)) | ((with_reducible refine gate_callee (f := 31) rfl ?_); refine goesL_ (some 38) rfl rfl Try.func31 (by kernel_rfl) rfl #[.int .i64 x6_2, .int .i64 x8_3] rfl (by (try simp only [List.map_toArray, List.map_cons, List.map_nil]); first | done | rfl | (simp only [List.length_drop, List.length_take]; rfl)) ?_; (with_reducible refine (epactref03_days.calls x6_2 x8_3 t167 _ A10.out).mono ?_); rintro e w12 ⟨rfl, hb⟩; refine ⟨_, rfl, ?_⟩; have n0_ := Aside0.mk (below_step (by repeat (first | (with_reducible first | exact HB.out | apply below_alloc | apply pw_below_drewN | apply below_drew1) | exact HB.out)) hb); clear HB; have HB := n0_; clear n0_; (try clear hb); (try clear hb2); (try clear hk); (try clear hi)))
                    go_roundg k3
                    case measure => have := HJ1.out; have := HK2.out; have := HK3.out; omega
                    case rel => exact ⟨(wrap64 (x7_3 - t167)), (wrap64 (x8_3 + 1)), (by first | rfl | (simp; done) | (simp [*]; done)), (by first | rfl | (simp; done) | (simp [*]; done)), H', ⟨by have := HJ1.out; have := HK2.out; have := HK3.out; omega⟩, ⟨by repeat (first | (with_reducible first | exact HB.out | apply below_alloc | apply pw_below_drewN | apply below_drew1) | exact HB.out)⟩⟩
                  · rw [if_neg c9] at H
                    have c9b0 : decide (t166 ≤ x7_3) = false := decide_eq_false c9
                    clear c9
                    simp only [Option.some.injEq, Prod.mk.injEq] at H
                    obtain ⟨rfl, rfl, rfl, rfl⟩ := H
                    go_wp2_with (first | ((with_reducible refine gate_callee (f := 31) rfl ?_); refine goesL_ (some 33) rfl rfl Try.func31 (by kernel_rfl) rfl #[.int .i64 x6_2, .int .i64 x8_3] rfl (by (try simp only [List.map_toArray, List.map_cons, List.map_nil]); first | done | rfl | (simp only [List.length_drop, List.length_take]; rfl)) ?_; (with_reducible refine (epactref03_days.calls x6_2 x8_3 t166 _ A8.out).mono ?_); rintro e w13 ⟨rfl, hb⟩; refine ⟨_, rfl, ?_⟩; have n0_ := Aside0.mk (below_step (by repeat (first | (with_reducible first | exact HB.out | apply below_alloc | apply pw_below_drewN | apply below_drew1) | exact HB.out)) hb); clear HB; have HB := n0_; clear n0_; (try clear hb); (try clear hb2); (try clear hk); (try clear hi)))
                    refine bodyPost_ret (results_list (rs := [.tmp 2, .tmp 3, .tmp 4, .tmp 5]) rfl (by simp) (.tmp (.tmp (.tmp (.tmp .nil))))) rfl ?_
                    exact ⟨by first | rfl | (simp [errW_none, errW_some] <;> rfl) | (simp [*, errW_none, errW_some] <;> rfl), by repeat (first | (with_reducible first | exact HB.out | apply below_alloc | apply pw_below_drewN | apply below_drew1) | exact HB.out)⟩

/-! ### epactref04_Day: function 18 -/
def epactref04_Day.f (k : Nat) (a0 : Int) : Option (ByteArray × Bool) := (epactref03_Date.f k a0).bind fun bt168 => (if bt168.2.2.2 = true then ((epactref04_digits.f k bt168.1 4).bind fun t172 => (if t172.size + 1 ≤ 9223372036854775807 then ((epactref04_digits.f k bt168.2.1 2).bind fun t173 => (if (t172 ++ (⟨#[45]⟩ : ByteArray)).size + t173.size ≤ 9223372036854775807 then (if ((t172 ++ (⟨#[45]⟩ : ByteArray)) ++ t173).size + 1 ≤ 9223372036854775807 then ((epactref04_digits.f k bt168.2.2.1 2).bind fun t174 => (if (((t172 ++ (⟨#[45]⟩ : ByteArray)) ++ t173) ++ (⟨#[45]⟩ : ByteArray)).size + t174.size ≤ 9223372036854775807 then (some ((((t172 ++ (⟨#[45]⟩ : ByteArray)) ++ t173) ++ (⟨#[45]⟩ : ByteArray)) ++ t174, true)) else (none))) else (none)) else (none))) else (none))) else (some ((⟨#[]⟩ : ByteArray), false)))
theorem epactref04_Day.mono : ∀ a0 k, LeO (epactref04_Day.f k a0) (epactref04_Day.f (k + 1) a0) := by
  intro a0 k
  unfold epactref04_Day.f
  repeat' first
      | (with_reducible exact epactref03_Date.mono _ _)
      | (with_reducible exact epactref04_digits.mono _ _ _)
      | (with_reducible exact LeO.refl _)
      | (with_reducible exact LeO.none _)
      | (with_reducible refine LeO.ite ?_ ?_)
      | (with_reducible refine LeO.bind ?_ (fun _ => ?_))
      | exact epactref03_Date.mono _ _
      | exact epactref04_digits.mono _ _ _
      | exact LeO.none _
      | refine LeO.ite ?_ ?_
      | refine LeO.bind ?_ (fun _ => ?_)
set_option maxHeartbeats 8000000 in
set_option maxRecDepth 100000 in
theorem epactref04_Day.calls (k : Nat) (a0 : Int) (r1 : ByteArray) (r2 : Bool) (w : World) (h : epactref04_Day.f k a0 = some (r1, r2)) :
    Calls Try.prog 18 #[.int .i64 a0] w fun e w' => e = .returned (.tuple #[.string r1, .bool r2]) ∧ Below w.heap.size w w' := by
  have HB := Aside0.mk (Below.refl w.heap.size w)
  have H : ((epactref03_Date.f k a0).bind fun bt168 => (if bt168.2.2.2 = true then ((epactref04_digits.f k bt168.1 4).bind fun t172 => (if t172.size + 1 ≤ 9223372036854775807 then ((epactref04_digits.f k bt168.2.1 2).bind fun t173 => (if (t172 ++ (⟨#[45]⟩ : ByteArray)).size + t173.size ≤ 9223372036854775807 then (if ((t172 ++ (⟨#[45]⟩ : ByteArray)) ++ t173).size + 1 ≤ 9223372036854775807 then ((epactref04_digits.f k bt168.2.2.1 2).bind fun t174 => (if (((t172 ++ (⟨#[45]⟩ : ByteArray)) ++ t173) ++ (⟨#[45]⟩ : ByteArray)).size + t174.size ≤ 9223372036854775807 then (some ((((t172 ++ (⟨#[45]⟩ : ByteArray)) ++ t173) ++ (⟨#[45]⟩ : ByteArray)) ++ t174, true)) else (none))) else (none)) else (none))) else (none))) else (some ((⟨#[]⟩ : ByteArray), false)))) = some (r1, r2) := h
  clear h
  replace H := Option.bind_eq_some_iff.mp H
  obtain ⟨⟨t168, t169, t170, t171⟩, A20, H⟩ := H
  replace H : (if t171 = true then ((epactref04_digits.f k t168 4).bind fun t172 => (if t172.size + 1 ≤ 9223372036854775807 then ((epactref04_digits.f k t169 2).bind fun t173 => (if (t172 ++ (⟨#[45]⟩ : ByteArray)).size + t173.size ≤ 9223372036854775807 then (if ((t172 ++ (⟨#[45]⟩ : ByteArray)) ++ t173).size + 1 ≤ 9223372036854775807 then ((epactref04_digits.f k t170 2).bind fun t174 => (if (((t172 ++ (⟨#[45]⟩ : ByteArray)) ++ t173) ++ (⟨#[45]⟩ : ByteArray)).size + t174.size ≤ 9223372036854775807 then (some ((((t172 ++ (⟨#[45]⟩ : ByteArray)) ++ t173) ++ (⟨#[45]⟩ : ByteArray)) ++ t174, true)) else (none))) else (none)) else (none))) else (none))) else (some ((⟨#[]⟩ : ByteArray), false))) = some (r1, r2) := H
  have A2 := Aside0.mk A20
  clear A20
  by_cases c3 : t171 = true
  · subst c3
    have H1 : ((epactref04_digits.f k t168 4).bind fun t172 => (if t172.size + 1 ≤ 9223372036854775807 then ((epactref04_digits.f k t169 2).bind fun t173 => (if (t172 ++ (⟨#[45]⟩ : ByteArray)).size + t173.size ≤ 9223372036854775807 then (if ((t172 ++ (⟨#[45]⟩ : ByteArray)) ++ t173).size + 1 ≤ 9223372036854775807 then ((epactref04_digits.f k t170 2).bind fun t174 => (if (((t172 ++ (⟨#[45]⟩ : ByteArray)) ++ t173) ++ (⟨#[45]⟩ : ByteArray)).size + t174.size ≤ 9223372036854775807 then (some ((((t172 ++ (⟨#[45]⟩ : ByteArray)) ++ t173) ++ (⟨#[45]⟩ : ByteArray)) ++ t174, true)) else (none))) else (none)) else (none))) else (none))) = some (r1, r2) := by rw [if_pos rfl] at H; exact H
    clear H
    have H := H1
    clear H1
    replace H := Option.bind_eq_some_iff.mp H
    obtain ⟨t172, A40, H⟩ := H
    replace H : (if t172.size + 1 ≤ 9223372036854775807 then ((epactref04_digits.f k t169 2).bind fun t173 => (if (t172 ++ (⟨#[45]⟩ : ByteArray)).size + t173.size ≤ 9223372036854775807 then (if ((t172 ++ (⟨#[45]⟩ : ByteArray)) ++ t173).size + 1 ≤ 9223372036854775807 then ((epactref04_digits.f k t170 2).bind fun t174 => (if (((t172 ++ (⟨#[45]⟩ : ByteArray)) ++ t173) ++ (⟨#[45]⟩ : ByteArray)).size + t174.size ≤ 9223372036854775807 then (some ((((t172 ++ (⟨#[45]⟩ : ByteArray)) ++ t173) ++ (⟨#[45]⟩ : ByteArray)) ++ t174, true)) else (none))) else (none)) else (none))) else (none)) = some (r1, r2) := H
    have A4 := Aside0.mk A40
    clear A40
    by_cases c5 : t172.size + 1 ≤ 9223372036854775807
    · rw [if_pos c5] at H
      have c5b0 := eq_true c5
      have c5b1 : decide (t172.size + 1 ≤ 9223372036854775807) = true := decide_eq_true c5
      try have c5b2 : (9223372036854775807 < t172.size + 1) = False := eq_false (Nat.not_lt.2 c5)
      replace H := Option.bind_eq_some_iff.mp H
      obtain ⟨t173, A60, H⟩ := H
      replace H : (if (t172 ++ (⟨#[45]⟩ : ByteArray)).size + t173.size ≤ 9223372036854775807 then (if ((t172 ++ (⟨#[45]⟩ : ByteArray)) ++ t173).size + 1 ≤ 9223372036854775807 then ((epactref04_digits.f k t170 2).bind fun t174 => (if (((t172 ++ (⟨#[45]⟩ : ByteArray)) ++ t173) ++ (⟨#[45]⟩ : ByteArray)).size + t174.size ≤ 9223372036854775807 then (some ((((t172 ++ (⟨#[45]⟩ : ByteArray)) ++ t173) ++ (⟨#[45]⟩ : ByteArray)) ++ t174, true)) else (none))) else (none)) else (none)) = some (r1, r2) := H
      have A6 := Aside0.mk A60
      clear A60
      by_cases c7 : (t172 ++ (⟨#[45]⟩ : ByteArray)).size + t173.size ≤ 9223372036854775807
      · rw [if_pos c7] at H
        have c7b0 := eq_true c7
        have c7b1 : decide ((t172 ++ (⟨#[45]⟩ : ByteArray)).size + t173.size ≤ 9223372036854775807) = true := decide_eq_true c7
        try have c7b2 : (9223372036854775807 < (t172 ++ (⟨#[45]⟩ : ByteArray)).size + t173.size) = False := eq_false (Nat.not_lt.2 c7)
        have c7b3 : (9223372036854775807 < t172.size + 1 + t173.size) = False := eq_false (Nat.not_lt.2 (by have h_ := c7; simp only [ByteArray.size_append] at h_; exact h_))
        by_cases c8 : ((t172 ++ (⟨#[45]⟩ : ByteArray)) ++ t173).size + 1 ≤ 9223372036854775807
        · rw [if_pos c8] at H
          have c8b0 := eq_true c8
          have c8b1 : decide (((t172 ++ (⟨#[45]⟩ : ByteArray)) ++ t173).size + 1 ≤ 9223372036854775807) = true := decide_eq_true c8
          try have c8b2 : (9223372036854775807 < ((t172 ++ (⟨#[45]⟩ : ByteArray)) ++ t173).size + 1) = False := eq_false (Nat.not_lt.2 c8)
          have c8b3 : (9223372036854775807 < t172.size + 1 + t173.size + 1) = False := eq_false (Nat.not_lt.2 (by have h_ := c8; simp only [ByteArray.size_append] at h_; exact h_))
          replace H := Option.bind_eq_some_iff.mp H
          obtain ⟨t174, A90, H⟩ := H
          replace H : (if (((t172 ++ (⟨#[45]⟩ : ByteArray)) ++ t173) ++ (⟨#[45]⟩ : ByteArray)).size + t174.size ≤ 9223372036854775807 then (some ((((t172 ++ (⟨#[45]⟩ : ByteArray)) ++ t173) ++ (⟨#[45]⟩ : ByteArray)) ++ t174, true)) else (none)) = some (r1, r2) := H
          have A9 := Aside0.mk A90
          clear A90
          by_cases c10 : (((t172 ++ (⟨#[45]⟩ : ByteArray)) ++ t173) ++ (⟨#[45]⟩ : ByteArray)).size + t174.size ≤ 9223372036854775807
          · rw [if_pos c10] at H
            have c10b0 := eq_true c10
            have c10b1 : decide ((((t172 ++ (⟨#[45]⟩ : ByteArray)) ++ t173) ++ (⟨#[45]⟩ : ByteArray)).size + t174.size ≤ 9223372036854775807) = true := decide_eq_true c10
            try have c10b2 : (9223372036854775807 < (((t172 ++ (⟨#[45]⟩ : ByteArray)) ++ t173) ++ (⟨#[45]⟩ : ByteArray)).size + t174.size) = False := eq_false (Nat.not_lt.2 c10)
            have c10b3 : (9223372036854775807 < t172.size + 1 + t173.size + 1 + t174.size) = False := eq_false (Nat.not_lt.2 (by have h_ := c10; simp only [ByteArray.size_append] at h_; exact h_))
            simp only [Option.some.injEq, Prod.mk.injEq] at H
            obtain ⟨rfl, rfl⟩ := H
            go_enter Try.func18, Try.ntmps18
            go_wp2_with (first | ((with_reducible refine gate_callee (f := 26) rfl ?_); refine goesL_ (some 10) rfl rfl Try.func26 (by kernel_rfl) rfl #[.int .i64 a0] rfl (by (try simp only [List.map_toArray, List.map_cons, List.map_nil]); first | done | rfl | (simp only [List.length_drop, List.length_take]; rfl)) ?_; (with_reducible refine (epactref03_Date.calls k a0 t168 t169 t170 true _ A2.out).mono ?_); rintro e w11 ⟨rfl, hb⟩; refine ⟨_, rfl, ?_⟩; have n0_ := Aside0.mk (below_step (by repeat (first | (with_reducible first | exact HB.out | apply below_alloc | apply pw_below_drewN | apply below_drew1) | exact HB.out)) hb); clear HB; have HB := n0_; clear n0_; (try clear hb); (try clear hb2); (try clear hk); (try clear hi)) | ((with_reducible refine gate_callee (f := 21) rfl ?_); refine goesL_ (some 18) rfl rfl Try.func21 (by kernel_rfl) rfl #[.int .i64 t168, .int .i64 4] rfl (by (try simp only [List.map_toArray, List.map_cons, List.map_nil]); first | done | rfl | (simp only [List.length_drop, List.length_take]; rfl)) ?_; (with_reducible refine (epactref04_digits.calls k t168 4 t172 _ A4.out).mono ?_); rintro e w12 ⟨rfl, hb⟩; refine ⟨_, rfl, ?_⟩; have n0_ := Aside0.mk (below_step (by repeat (first | (with_reducible first | exact HB.out | apply below_alloc | apply pw_below_drewN | apply below_drew1) | exact HB.out)) hb); clear HB; have HB := n0_; clear n0_; (try clear hb); (try clear hb2); (try clear hk); (try clear hi)) | ((with_reducible refine gate_callee (f := 21) rfl ?_); refine goesL_ (some 21) rfl rfl Try.func21 (by kernel_rfl) rfl #[.int .i64 t169, .int .i64 2] rfl (by (try simp only [List.map_toArray, List.map_cons, List.map_nil]); first | done | rfl | (simp only [List.length_drop, List.length_take]; rfl)) ?_; (with_reducible refine (epactref04_digits.calls k t169 2 t173 _ A6.out).mono ?_); rintro e w13 ⟨rfl, hb⟩; refine ⟨_, rfl, ?_⟩; have n0_ := Aside0.mk (below_step (by repeat (first | (with_reducible first | exact HB.out | apply below_alloc | apply pw_below_drewN | apply below_drew1) | exact HB.out)) hb); clear HB; have HB := n0_; clear n0_; (try clear hb); (try clear hb2); (try clear hk); (try clear hi)) | ((with_reducible refine gate_callee (f := 21) rfl ?_); refine goesL_ (some 25) rfl rfl Try.func21 (by kernel_rfl) rfl #[.int .i64 t170, .int .i64 2] rfl (by (try simp only [List.map_toArray, List.map_cons, List.map_nil]); first | done | rfl | (simp only [List.length_drop, List.length_take]; rfl)) ?_; (with_reducible refine (epactref04_digits.calls k t170 2 t174 _ A9.out).mono ?_); rintro e w14 ⟨rfl, hb⟩; refine ⟨_, rfl, ?_⟩; have n0_ := Aside0.mk (below_step (by repeat (first | (with_reducible first | exact HB.out | apply below_alloc | apply pw_below_drewN | apply below_drew1) | exact HB.out)) hb); clear HB; have HB := n0_; clear n0_; (try clear hb); (try clear hb2); (try clear hk); (try clear hi)))
            go_ret2
            exact ⟨by first | rfl | (simp [errW_none, errW_some] <;> rfl) | (simp [*, errW_none, errW_some] <;> rfl), by repeat (first | (with_reducible first | exact HB.out | apply below_alloc | apply pw_below_drewN | apply below_drew1) | exact HB.out)⟩
          · rw [if_neg c10] at H
            exact absurd H (by simp)
        · rw [if_neg c8] at H
          exact absurd H (by simp)
      · rw [if_neg c7] at H
        exact absurd H (by simp)
    · rw [if_neg c5] at H
      exact absurd H (by simp)
  · replace c3 := Bool.eq_false_iff.mpr c3
    subst c3
    have H1 : (some ((⟨#[]⟩ : ByteArray), false)) = some (r1, r2) := by rw [if_neg (show ¬ (false = true) by decide)] at H; exact H
    clear H
    have H := H1
    clear H1
    simp only [Option.some.injEq, Prod.mk.injEq] at H
    obtain ⟨rfl, rfl⟩ := H
    go_enter Try.func18, Try.ntmps18
    go_wp2_with (first | ((with_reducible refine gate_callee (f := 26) rfl ?_); refine goesL_ (some 10) rfl rfl Try.func26 (by kernel_rfl) rfl #[.int .i64 a0] rfl (by (try simp only [List.map_toArray, List.map_cons, List.map_nil]); first | done | rfl | (simp only [List.length_drop, List.length_take]; rfl)) ?_; (with_reducible refine (epactref03_Date.calls k a0 t168 t169 t170 false _ A2.out).mono ?_); rintro e w15 ⟨rfl, hb⟩; refine ⟨_, rfl, ?_⟩; have n0_ := Aside0.mk (below_step (by repeat (first | (with_reducible first | exact HB.out | apply below_alloc | apply pw_below_drewN | apply below_drew1) | exact HB.out)) hb); clear HB; have HB := n0_; clear n0_; (try clear hb); (try clear hb2); (try clear hk); (try clear hi)))
    go_ret2
    exact ⟨by first | rfl | (simp [errW_none, errW_some] <;> rfl) | (simp [*, errW_none, errW_some] <;> rfl), by repeat (first | (with_reducible first | exact HB.out | apply below_alloc | apply pw_below_drewN | apply below_drew1) | exact HB.out)⟩

/-! ### epactref04_Text: function 14 -/
def epactref04_Text.j0 : Nat → ByteArray → Int → Int → Int → Bool → Option (ByteArray × Bool)
  | 0, _, _, _, _, _ => none
  | k + 1, x6, x8, x9, x10, x29 => if x29 = true then (some ((⟨#[]⟩ : ByteArray), false)) else (if x6.size + 1 ≤ 9223372036854775807 then ((epactref04_digits.f k x8 2).bind fun t181 => (if (x6 ++ (⟨#[84]⟩ : ByteArray)).size + t181.size ≤ 9223372036854775807 then (if ((x6 ++ (⟨#[84]⟩ : ByteArray)) ++ t181).size + 1 ≤ 9223372036854775807 then ((epactref04_digits.f k x9 2).bind fun t182 => (if (((x6 ++ (⟨#[84]⟩ : ByteArray)) ++ t181) ++ (⟨#[58]⟩ : ByteArray)).size + t182.size ≤ 9223372036854775807 then (if ((((x6 ++ (⟨#[84]⟩ : ByteArray)) ++ t181) ++ (⟨#[58]⟩ : ByteArray)) ++ t182).size + 1 ≤ 9223372036854775807 then ((epactref04_digits.f k x10 2).bind fun t183 => (if (((((x6 ++ (⟨#[84]⟩ : ByteArray)) ++ t181) ++ (⟨#[58]⟩ : ByteArray)) ++ t182) ++ (⟨#[58]⟩ : ByteArray)).size + t183.size ≤ 9223372036854775807 then (if ((((((x6 ++ (⟨#[84]⟩ : ByteArray)) ++ t181) ++ (⟨#[58]⟩ : ByteArray)) ++ t182) ++ (⟨#[58]⟩ : ByteArray)) ++ t183).size + 1 ≤ 9223372036854775807 then (some (((((((x6 ++ (⟨#[84]⟩ : ByteArray)) ++ t181) ++ (⟨#[58]⟩ : ByteArray)) ++ t182) ++ (⟨#[58]⟩ : ByteArray)) ++ t183) ++ (⟨#[90]⟩ : ByteArray), true)) else (none)) else (none))) else (none)) else (none))) else (none)) else (none))) else (none))
def epactref04_Text.f (k : Nat) (a0 : Int) (a1 : Int) : Option (ByteArray × Bool) := (epactref04_Day.f k a0).bind fun bt175 => ((epactref04_Clock.f k a1).bind fun bt177 => (if bt175.2 = true then (epactref04_Text.j0 k bt175.1 bt177.1 bt177.2.1 bt177.2.2.1 (!bt177.2.2.2)) else (epactref04_Text.j0 k bt175.1 bt177.1 bt177.2.1 bt177.2.2.1 true)))
theorem epactref04_Text.mono_l : ∀ k, (∀ y0 y1 y2 y3 y4, LeO (epactref04_Text.j0 k y0 y1 y2 y3 y4) (epactref04_Text.j0 (k + 1) y0 y1 y2 y3 y4))
  | 0 => fun _ _ _ _ _ r h => by simp [epactref04_Text.j0] at h
  | k + 1 => by
    have ih0 := epactref04_Text.mono_l k
    · intro y0 y1 y2 y3 y4
      unfold epactref04_Text.j0
      repeat' first
      | (with_reducible exact ih0 _ _ _ _ _)
      | (with_reducible exact epactref04_Clock.mono _ _)
      | (with_reducible exact epactref04_Day.mono _ _)
      | (with_reducible exact epactref04_digits.mono _ _ _)
      | (with_reducible exact LeO.refl _)
      | (with_reducible exact LeO.none _)
      | (with_reducible refine LeO.ite ?_ ?_)
      | (with_reducible refine LeO.bind ?_ (fun _ => ?_))
      | exact ih0 _ _ _ _ _
      | exact epactref04_Clock.mono _ _
      | exact epactref04_Day.mono _ _
      | exact epactref04_digits.mono _ _ _
      | exact LeO.none _
      | refine LeO.ite ?_ ?_
      | refine LeO.bind ?_ (fun _ => ?_)
theorem epactref04_Text.mono : ∀ a0 a1 k, LeO (epactref04_Text.f k a0 a1) (epactref04_Text.f (k + 1) a0 a1) := by
  intro a0 a1 k
  have ih0 := epactref04_Text.mono_l k
  unfold epactref04_Text.f
  repeat' first
      | (with_reducible exact ih0 _ _ _ _ _)
      | (with_reducible exact epactref04_Clock.mono _ _)
      | (with_reducible exact epactref04_Day.mono _ _)
      | (with_reducible exact epactref04_digits.mono _ _ _)
      | (with_reducible exact LeO.refl _)
      | (with_reducible exact LeO.none _)
      | (with_reducible refine LeO.ite ?_ ?_)
      | (with_reducible refine LeO.bind ?_ (fun _ => ?_))
      | exact ih0 _ _ _ _ _
      | exact epactref04_Clock.mono _ _
      | exact epactref04_Day.mono _ _
      | exact epactref04_digits.mono _ _ _
      | exact LeO.none _
      | refine LeO.ite ?_ ?_
      | refine LeO.bind ?_ (fun _ => ?_)
set_option maxHeartbeats 8000000 in
set_option maxRecDepth 100000 in
theorem epactref04_Text.calls (k : Nat) (a0 : Int) (a1 : Int) (r1 : ByteArray) (r2 : Bool) (w : World) (h : epactref04_Text.f k a0 a1 = some (r1, r2)) :
    Calls Try.prog 14 #[.int .i64 a0, .int .i64 a1] w fun e w' => e = .returned (.tuple #[.string r1, .bool r2]) ∧ Below w.heap.size w w' := by
  have HB := Aside0.mk (Below.refl w.heap.size w)
  have H : ((epactref04_Day.f k a0).bind fun bt175 => ((epactref04_Clock.f k a1).bind fun bt177 => (if bt175.2 = true then (epactref04_Text.j0 k bt175.1 bt177.1 bt177.2.1 bt177.2.2.1 (!bt177.2.2.2)) else (epactref04_Text.j0 k bt175.1 bt177.1 bt177.2.1 bt177.2.2.1 true)))) = some (r1, r2) := h
  clear h
  replace H := Option.bind_eq_some_iff.mp H
  obtain ⟨⟨t175, t176⟩, A30, H⟩ := H
  replace H : ((epactref04_Clock.f k a1).bind fun bt177 => (if t176 = true then (epactref04_Text.j0 k t175 bt177.1 bt177.2.1 bt177.2.2.1 (!bt177.2.2.2)) else (epactref04_Text.j0 k t175 bt177.1 bt177.2.1 bt177.2.2.1 true))) = some (r1, r2) := H
  have A3 := Aside0.mk A30
  clear A30
  replace H := Option.bind_eq_some_iff.mp H
  obtain ⟨⟨t177, t178, t179, t180⟩, A40, H⟩ := H
  replace H : (if t176 = true then (epactref04_Text.j0 k t175 t177 t178 t179 (!t180)) else (epactref04_Text.j0 k t175 t177 t178 t179 true)) = some (r1, r2) := H
  have A4 := Aside0.mk A40
  clear A40
  have HC5 := Aside0.mk H
  clear H
  go_enter Try.func14, Try.ntmps14
  go_upto_region 3 with (first | ((with_reducible refine gate_callee (f := 18) rfl ?_); refine goesL_ (some 14) rfl rfl Try.func18 (by kernel_rfl) rfl #[.int .i64 a0] rfl (by (try simp only [List.map_toArray, List.map_cons, List.map_nil]); first | done | rfl | (simp only [List.length_drop, List.length_take]; rfl)) ?_; (with_reducible refine (epactref04_Day.calls k a0 t175 t176 _ A3.out).mono ?_); rintro e w6 ⟨rfl, hb⟩; refine ⟨_, rfl, ?_⟩; have n0_ := Aside0.mk (below_step (by repeat (first | (with_reducible first | exact HB.out | apply below_alloc | apply pw_below_drewN | apply below_drew1) | exact HB.out)) hb); clear HB; have HB := n0_; clear n0_; (try clear hb); (try clear hb2); (try clear hk); (try clear hi)) | ((with_reducible refine gate_callee (f := 10) rfl ?_); refine goesL_ (some 19) rfl rfl Try.func10 (by kernel_rfl) rfl #[.int .i64 a1] rfl (by (try simp only [List.map_toArray, List.map_cons, List.map_nil]); first | done | rfl | (simp only [List.length_drop, List.length_take]; rfl)) ?_; (with_reducible refine (epactref04_Clock.calls k a1 t177 t178 t179 t180 _ A4.out).mono ?_); rintro e w' ⟨rfl, ⟨nd, rfl⟩⟩; refine ⟨_, rfl, ?_⟩))
  (try simp only [Act.put, List.setIfInBounds_toArray, List.set_cons_zero, List.set_cons_succ])
  go_cut [29] (fun v29 wc => ∃ (kq : Nat) (x29_4 : Bool), v29 = .bool x29_4 ∧ Aside0 (epactref04_Text.j0 kq t175 t177 t178 t179 x29_4 = some (r1, r2)) ∧ Aside0 (kq ≤ k) ∧ Aside0 (Below w.heap.size w wc))
  case first =>
    have H := HC5.out
    clear HC5
    by_cases c7 : t176 = true
    · subst c7
      have H1 : (epactref04_Text.j0 k t175 t177 t178 t179 (!t180)) = some (r1, r2) := by rw [if_pos rfl] at H; exact H
      clear H
      have H := H1
      clear H1
      have H' := Aside0.mk H
      clear H
      go_wp2
      go_meet
      case rel => exact ⟨_, (!t180), (by first | rfl | (simp; done) | (simp [*]; done)), H', ⟨by first | omega | exact Nat.le_refl _⟩, ⟨by repeat (first | (with_reducible first | exact HB.out | apply below_alloc | apply pw_below_drewN | apply below_drew1) | exact HB.out)⟩⟩
    · replace c7 := Bool.eq_false_iff.mpr c7
      subst c7
      have H1 : (epactref04_Text.j0 k t175 t177 t178 t179 true) = some (r1, r2) := by rw [if_neg (show ¬ (false = true) by decide)] at H; exact H
      clear H
      have H := H1
      clear H1
      have H' := Aside0.mk H
      clear H
      go_wp2
      go_meet
      case rel => exact ⟨_, (true), (by first | rfl | (simp; done) | (simp [*]; done)), H', ⟨by first | omega | exact Nat.le_refl _⟩, ⟨by repeat (first | (with_reducible first | exact HB.out | apply below_alloc | apply pw_below_drewN | apply below_drew1) | exact HB.out)⟩⟩
  case rest =>
    clear HC5
    try clear c1
    try clear p2
    try clear c7
    obtain ⟨kq, x29_4, rfl, HA, HJ4, HB⟩ := hcut
    cases kq with
    | zero => exact absurd HA.out (by simp [epactref04_Text.j0])
    | succ kj4 =>
      have H := HA.out
      clear HA
      simp only [epactref04_Text.j0] at H
      by_cases c8 : x29_4 = true
      · subst c8
        have H1 : (some ((⟨#[]⟩ : ByteArray), false)) = some (r1, r2) := by rw [if_pos rfl] at H; exact H
        clear H
        have H := H1
        clear H1
        simp only [Option.some.injEq, Prod.mk.injEq] at H
        obtain ⟨rfl, rfl⟩ := H
        go_wp2
        go_ret2
        exact ⟨by first | rfl | (simp [errW_none, errW_some] <;> rfl) | (simp [*, errW_none, errW_some] <;> rfl), by repeat (first | (with_reducible first | exact HB.out | apply below_alloc | apply pw_below_drewN | apply below_drew1) | exact HB.out)⟩
      · replace c8 := Bool.eq_false_iff.mpr c8
        subst c8
        have H1 : (if t175.size + 1 ≤ 9223372036854775807 then ((epactref04_digits.f kj4 t177 2).bind fun t181 => (if (t175 ++ (⟨#[84]⟩ : ByteArray)).size + t181.size ≤ 9223372036854775807 then (if ((t175 ++ (⟨#[84]⟩ : ByteArray)) ++ t181).size + 1 ≤ 9223372036854775807 then ((epactref04_digits.f kj4 t178 2).bind fun t182 => (if (((t175 ++ (⟨#[84]⟩ : ByteArray)) ++ t181) ++ (⟨#[58]⟩ : ByteArray)).size + t182.size ≤ 9223372036854775807 then (if ((((t175 ++ (⟨#[84]⟩ : ByteArray)) ++ t181) ++ (⟨#[58]⟩ : ByteArray)) ++ t182).size + 1 ≤ 9223372036854775807 then ((epactref04_digits.f kj4 t179 2).bind fun t183 => (if (((((t175 ++ (⟨#[84]⟩ : ByteArray)) ++ t181) ++ (⟨#[58]⟩ : ByteArray)) ++ t182) ++ (⟨#[58]⟩ : ByteArray)).size + t183.size ≤ 9223372036854775807 then (if ((((((t175 ++ (⟨#[84]⟩ : ByteArray)) ++ t181) ++ (⟨#[58]⟩ : ByteArray)) ++ t182) ++ (⟨#[58]⟩ : ByteArray)) ++ t183).size + 1 ≤ 9223372036854775807 then (some (((((((t175 ++ (⟨#[84]⟩ : ByteArray)) ++ t181) ++ (⟨#[58]⟩ : ByteArray)) ++ t182) ++ (⟨#[58]⟩ : ByteArray)) ++ t183) ++ (⟨#[90]⟩ : ByteArray), true)) else (none)) else (none))) else (none)) else (none))) else (none)) else (none))) else (none)) = some (r1, r2) := by rw [if_neg (show ¬ (false = true) by decide)] at H; exact H
        clear H
        have H := H1
        clear H1
        by_cases c9 : t175.size + 1 ≤ 9223372036854775807
        · rw [if_pos c9] at H
          have c9b0 := eq_true c9
          have c9b1 : decide (t175.size + 1 ≤ 9223372036854775807) = true := decide_eq_true c9
          try have c9b2 : (9223372036854775807 < t175.size + 1) = False := eq_false (Nat.not_lt.2 c9)
          replace H := Option.bind_eq_some_iff.mp H
          obtain ⟨t181, A100, H⟩ := H
          replace H : (if (t175 ++ (⟨#[84]⟩ : ByteArray)).size + t181.size ≤ 9223372036854775807 then (if ((t175 ++ (⟨#[84]⟩ : ByteArray)) ++ t181).size + 1 ≤ 9223372036854775807 then ((epactref04_digits.f kj4 t178 2).bind fun t182 => (if (((t175 ++ (⟨#[84]⟩ : ByteArray)) ++ t181) ++ (⟨#[58]⟩ : ByteArray)).size + t182.size ≤ 9223372036854775807 then (if ((((t175 ++ (⟨#[84]⟩ : ByteArray)) ++ t181) ++ (⟨#[58]⟩ : ByteArray)) ++ t182).size + 1 ≤ 9223372036854775807 then ((epactref04_digits.f kj4 t179 2).bind fun t183 => (if (((((t175 ++ (⟨#[84]⟩ : ByteArray)) ++ t181) ++ (⟨#[58]⟩ : ByteArray)) ++ t182) ++ (⟨#[58]⟩ : ByteArray)).size + t183.size ≤ 9223372036854775807 then (if ((((((t175 ++ (⟨#[84]⟩ : ByteArray)) ++ t181) ++ (⟨#[58]⟩ : ByteArray)) ++ t182) ++ (⟨#[58]⟩ : ByteArray)) ++ t183).size + 1 ≤ 9223372036854775807 then (some (((((((t175 ++ (⟨#[84]⟩ : ByteArray)) ++ t181) ++ (⟨#[58]⟩ : ByteArray)) ++ t182) ++ (⟨#[58]⟩ : ByteArray)) ++ t183) ++ (⟨#[90]⟩ : ByteArray), true)) else (none)) else (none))) else (none)) else (none))) else (none)) else (none)) = some (r1, r2) := H
          have A10 := Aside0.mk A100
          clear A100
          by_cases c11 : (t175 ++ (⟨#[84]⟩ : ByteArray)).size + t181.size ≤ 9223372036854775807
          · rw [if_pos c11] at H
            have c11b0 := eq_true c11
            have c11b1 : decide ((t175 ++ (⟨#[84]⟩ : ByteArray)).size + t181.size ≤ 9223372036854775807) = true := decide_eq_true c11
            try have c11b2 : (9223372036854775807 < (t175 ++ (⟨#[84]⟩ : ByteArray)).size + t181.size) = False := eq_false (Nat.not_lt.2 c11)
            have c11b3 : (9223372036854775807 < t175.size + 1 + t181.size) = False := eq_false (Nat.not_lt.2 (by have h_ := c11; simp only [ByteArray.size_append] at h_; exact h_))
            by_cases c12 : ((t175 ++ (⟨#[84]⟩ : ByteArray)) ++ t181).size + 1 ≤ 9223372036854775807
            · rw [if_pos c12] at H
              have c12b0 := eq_true c12
              have c12b1 : decide (((t175 ++ (⟨#[84]⟩ : ByteArray)) ++ t181).size + 1 ≤ 9223372036854775807) = true := decide_eq_true c12
              try have c12b2 : (9223372036854775807 < ((t175 ++ (⟨#[84]⟩ : ByteArray)) ++ t181).size + 1) = False := eq_false (Nat.not_lt.2 c12)
              have c12b3 : (9223372036854775807 < t175.size + 1 + t181.size + 1) = False := eq_false (Nat.not_lt.2 (by have h_ := c12; simp only [ByteArray.size_append] at h_; exact h_))
              replace H := Option.bind_eq_some_iff.mp H
              obtain ⟨t182, A130, H⟩ := H
              replace H : (if (((t175 ++ (⟨#[84]⟩ : ByteArray)) ++ t181) ++ (⟨#[58]⟩ : ByteArray)).size + t182.size ≤ 9223372036854775807 then (if ((((t175 ++ (⟨#[84]⟩ : ByteArray)) ++ t181) ++ (⟨#[58]⟩ : ByteArray)) ++ t182).size + 1 ≤ 9223372036854775807 then ((epactref04_digits.f kj4 t179 2).bind fun t183 => (if (((((t175 ++ (⟨#[84]⟩ : ByteArray)) ++ t181) ++ (⟨#[58]⟩ : ByteArray)) ++ t182) ++ (⟨#[58]⟩ : ByteArray)).size + t183.size ≤ 9223372036854775807 then (if ((((((t175 ++ (⟨#[84]⟩ : ByteArray)) ++ t181) ++ (⟨#[58]⟩ : ByteArray)) ++ t182) ++ (⟨#[58]⟩ : ByteArray)) ++ t183).size + 1 ≤ 9223372036854775807 then (some (((((((t175 ++ (⟨#[84]⟩ : ByteArray)) ++ t181) ++ (⟨#[58]⟩ : ByteArray)) ++ t182) ++ (⟨#[58]⟩ : ByteArray)) ++ t183) ++ (⟨#[90]⟩ : ByteArray), true)) else (none)) else (none))) else (none)) else (none)) = some (r1, r2) := H
              have A13 := Aside0.mk A130
              clear A130
              by_cases c14 : (((t175 ++ (⟨#[84]⟩ : ByteArray)) ++ t181) ++ (⟨#[58]⟩ : ByteArray)).size + t182.size ≤ 9223372036854775807
              · rw [if_pos c14] at H
                have c14b0 := eq_true c14
                have c14b1 : decide ((((t175 ++ (⟨#[84]⟩ : ByteArray)) ++ t181) ++ (⟨#[58]⟩ : ByteArray)).size + t182.size ≤ 9223372036854775807) = true := decide_eq_true c14
                try have c14b2 : (9223372036854775807 < (((t175 ++ (⟨#[84]⟩ : ByteArray)) ++ t181) ++ (⟨#[58]⟩ : ByteArray)).size + t182.size) = False := eq_false (Nat.not_lt.2 c14)
                have c14b3 : (9223372036854775807 < t175.size + 1 + t181.size + 1 + t182.size) = False := eq_false (Nat.not_lt.2 (by have h_ := c14; simp only [ByteArray.size_append] at h_; exact h_))
                by_cases c15 : ((((t175 ++ (⟨#[84]⟩ : ByteArray)) ++ t181) ++ (⟨#[58]⟩ : ByteArray)) ++ t182).size + 1 ≤ 9223372036854775807
                · rw [if_pos c15] at H
                  have c15b0 := eq_true c15
                  have c15b1 : decide (((((t175 ++ (⟨#[84]⟩ : ByteArray)) ++ t181) ++ (⟨#[58]⟩ : ByteArray)) ++ t182).size + 1 ≤ 9223372036854775807) = true := decide_eq_true c15
                  try have c15b2 : (9223372036854775807 < ((((t175 ++ (⟨#[84]⟩ : ByteArray)) ++ t181) ++ (⟨#[58]⟩ : ByteArray)) ++ t182).size + 1) = False := eq_false (Nat.not_lt.2 c15)
                  have c15b3 : (9223372036854775807 < t175.size + 1 + t181.size + 1 + t182.size + 1) = False := eq_false (Nat.not_lt.2 (by have h_ := c15; simp only [ByteArray.size_append] at h_; exact h_))
                  replace H := Option.bind_eq_some_iff.mp H
                  obtain ⟨t183, A160, H⟩ := H
                  replace H : (if (((((t175 ++ (⟨#[84]⟩ : ByteArray)) ++ t181) ++ (⟨#[58]⟩ : ByteArray)) ++ t182) ++ (⟨#[58]⟩ : ByteArray)).size + t183.size ≤ 9223372036854775807 then (if ((((((t175 ++ (⟨#[84]⟩ : ByteArray)) ++ t181) ++ (⟨#[58]⟩ : ByteArray)) ++ t182) ++ (⟨#[58]⟩ : ByteArray)) ++ t183).size + 1 ≤ 9223372036854775807 then (some (((((((t175 ++ (⟨#[84]⟩ : ByteArray)) ++ t181) ++ (⟨#[58]⟩ : ByteArray)) ++ t182) ++ (⟨#[58]⟩ : ByteArray)) ++ t183) ++ (⟨#[90]⟩ : ByteArray), true)) else (none)) else (none)) = some (r1, r2) := H
                  have A16 := Aside0.mk A160
                  clear A160
                  by_cases c17 : (((((t175 ++ (⟨#[84]⟩ : ByteArray)) ++ t181) ++ (⟨#[58]⟩ : ByteArray)) ++ t182) ++ (⟨#[58]⟩ : ByteArray)).size + t183.size ≤ 9223372036854775807
                  · rw [if_pos c17] at H
                    have c17b0 := eq_true c17
                    have c17b1 : decide ((((((t175 ++ (⟨#[84]⟩ : ByteArray)) ++ t181) ++ (⟨#[58]⟩ : ByteArray)) ++ t182) ++ (⟨#[58]⟩ : ByteArray)).size + t183.size ≤ 9223372036854775807) = true := decide_eq_true c17
                    try have c17b2 : (9223372036854775807 < (((((t175 ++ (⟨#[84]⟩ : ByteArray)) ++ t181) ++ (⟨#[58]⟩ : ByteArray)) ++ t182) ++ (⟨#[58]⟩ : ByteArray)).size + t183.size) = False := eq_false (Nat.not_lt.2 c17)
                    have c17b3 : (9223372036854775807 < t175.size + 1 + t181.size + 1 + t182.size + 1 + t183.size) = False := eq_false (Nat.not_lt.2 (by have h_ := c17; simp only [ByteArray.size_append] at h_; exact h_))
                    by_cases c18 : ((((((t175 ++ (⟨#[84]⟩ : ByteArray)) ++ t181) ++ (⟨#[58]⟩ : ByteArray)) ++ t182) ++ (⟨#[58]⟩ : ByteArray)) ++ t183).size + 1 ≤ 9223372036854775807
                    · rw [if_pos c18] at H
                      have c18b0 := eq_true c18
                      have c18b1 : decide (((((((t175 ++ (⟨#[84]⟩ : ByteArray)) ++ t181) ++ (⟨#[58]⟩ : ByteArray)) ++ t182) ++ (⟨#[58]⟩ : ByteArray)) ++ t183).size + 1 ≤ 9223372036854775807) = true := decide_eq_true c18
                      try have c18b2 : (9223372036854775807 < ((((((t175 ++ (⟨#[84]⟩ : ByteArray)) ++ t181) ++ (⟨#[58]⟩ : ByteArray)) ++ t182) ++ (⟨#[58]⟩ : ByteArray)) ++ t183).size + 1) = False := eq_false (Nat.not_lt.2 c18)
                      have c18b3 : (9223372036854775807 < t175.size + 1 + t181.size + 1 + t182.size + 1 + t183.size + 1) = False := eq_false (Nat.not_lt.2 (by have h_ := c18; simp only [ByteArray.size_append] at h_; exact h_))
                      simp only [Option.some.injEq, Prod.mk.injEq] at H
                      obtain ⟨rfl, rfl⟩ := H
                      go_wp2_with (first | ((with_reducible refine gate_callee (f := 21) rfl ?_); refine goesL_ (some 33) rfl rfl Try.func21 (by kernel_rfl) rfl #[.int .i64 t177, .int .i64 2] rfl (by (try simp only [List.map_toArray, List.map_cons, List.map_nil]); first | done | rfl | (simp only [List.length_drop, List.length_take]; rfl)) ?_; (with_reducible refine (epactref04_digits.calls kj4 t177 2 t181 _ A10.out).mono ?_); rintro e w19 ⟨rfl, hb⟩; refine ⟨_, rfl, ?_⟩; have n0_ := Aside0.mk (below_step (by repeat (first | (with_reducible first | exact HB.out | apply below_alloc | apply pw_below_drewN | apply below_drew1) | exact HB.out)) hb); clear HB; have HB := n0_; clear n0_; (try clear hb); (try clear hb2); (try clear hk); (try clear hi)) | ((with_reducible refine gate_callee (f := 21) rfl ?_); refine goesL_ (some 37) rfl rfl Try.func21 (by kernel_rfl) rfl #[.int .i64 t178, .int .i64 2] rfl (by (try simp only [List.map_toArray, List.map_cons, List.map_nil]); first | done | rfl | (simp only [List.length_drop, List.length_take]; rfl)) ?_; (with_reducible refine (epactref04_digits.calls kj4 t178 2 t182 _ A13.out).mono ?_); rintro e w20 ⟨rfl, hb⟩; refine ⟨_, rfl, ?_⟩; have n0_ := Aside0.mk (below_step (by repeat (first | (with_reducible first | exact HB.out | apply below_alloc | apply pw_below_drewN | apply below_drew1) | exact HB.out)) hb); clear HB; have HB := n0_; clear n0_; (try clear hb); (try clear hb2); (try clear hk); (try clear hi)) | ((with_reducible refine gate_callee (f := 21) rfl ?_); refine goesL_ (some 41) rfl rfl Try.func21 (by kernel_rfl) rfl #[.int .i64 t179, .int .i64 2] rfl (by (try simp only [List.map_toArray, List.map_cons, List.map_nil]); first | done | rfl | (simp only [List.length_drop, List.length_take]; rfl)) ?_; (with_reducible refine (epactref04_digits.calls kj4 t179 2 t183 _ A16.out).mono ?_); rintro e w21 ⟨rfl, hb⟩; refine ⟨_, rfl, ?_⟩; have n0_ := Aside0.mk (below_step (by repeat (first | (with_reducible first | exact HB.out | apply below_alloc | apply pw_below_drewN | apply below_drew1) | exact HB.out)) hb); clear HB; have HB := n0_; clear n0_; (try clear hb); (try clear hb2); (try clear hk); (try clear hi)))
                      go_ret2
                      exact ⟨by first | rfl | (simp [errW_none, errW_some] <;> rfl) | (simp [*, errW_none, errW_some] <;> rfl), by repeat (first | (with_reducible first | exact HB.out | apply below_alloc | apply pw_below_drewN | apply below_drew1) | exact HB.out)⟩
                    · rw [if_neg c18] at H
                      exact absurd H (by simp)
                  · rw [if_neg c17] at H
                    exact absurd H (by simp)
                · rw [if_neg c15] at H
                  exact absurd H (by simp)
              · rw [if_neg c14] at H
                exact absurd H (by simp)
            · rw [if_neg c12] at H
              exact absurd H (by simp)
          · rw [if_neg c11] at H
            exact absurd H (by simp)
        · rw [if_neg c9] at H
          exact absurd H (by simp)

/-! ### epactref03_Last: function 29 -/
def epactref03_Last.f (a0 : Int) (a1 : Int) : Option (Int × Bool) := if a0 < 1 then (some (0, false)) else (if a0 > 9999 then (some (0, false)) else (if a1 < 1 then (some (0, false)) else (if a1 > 12 then (some (0, false)) else ((epactref03_days.f a0 a1).bind fun t184 => (some (t184, true))))))
set_option maxHeartbeats 8000000 in
set_option maxRecDepth 100000 in
theorem epactref03_Last.calls (a0 : Int) (a1 : Int) (r1 : Int) (r2 : Bool) (w : World) (h : epactref03_Last.f a0 a1 = some (r1, r2)) :
    Calls Try.prog 29 #[.int .i64 a0, .int .i64 a1] w fun e w' => e = .returned (.tuple #[.int .i64 r1, .bool r2]) ∧ Below w.heap.size w w' := by
  have HB := Aside0.mk (Below.refl w.heap.size w)
  have H : (if a0 < 1 then (some (0, false)) else (if a0 > 9999 then (some (0, false)) else (if a1 < 1 then (some (0, false)) else (if a1 > 12 then (some (0, false)) else ((epactref03_days.f a0 a1).bind fun t184 => (some (t184, true))))))) = some (r1, r2) := h
  clear h
  by_cases c3 : a0 < 1
  · rw [if_pos c3] at H
    have c3b0 : decide (a0 < 1) = true := decide_eq_true c3
    clear c3
    simp only [Option.some.injEq, Prod.mk.injEq] at H
    obtain ⟨rfl, rfl⟩ := H
    go_enter Try.func29, Try.ntmps29
    go_wp2
    go_ret2
    exact ⟨by first | rfl | (simp [errW_none, errW_some] <;> rfl) | (simp [*, errW_none, errW_some] <;> rfl), by repeat (first | (with_reducible first | exact HB.out | apply below_alloc | apply pw_below_drewN | apply below_drew1) | exact HB.out)⟩
  · rw [if_neg c3] at H
    have c3b0 : decide (a0 < 1) = false := decide_eq_false c3
    clear c3
    by_cases c4 : a0 > 9999
    · rw [if_pos c4] at H
      have c4b0 : decide (9999 < a0) = true := decide_eq_true c4
      clear c4
      simp only [Option.some.injEq, Prod.mk.injEq] at H
      obtain ⟨rfl, rfl⟩ := H
      go_enter Try.func29, Try.ntmps29
      go_wp2
      go_ret2
      exact ⟨by first | rfl | (simp [errW_none, errW_some] <;> rfl) | (simp [*, errW_none, errW_some] <;> rfl), by repeat (first | (with_reducible first | exact HB.out | apply below_alloc | apply pw_below_drewN | apply below_drew1) | exact HB.out)⟩
    · rw [if_neg c4] at H
      have c4b0 : decide (9999 < a0) = false := decide_eq_false c4
      clear c4
      by_cases c5 : a1 < 1
      · rw [if_pos c5] at H
        have c5b0 : decide (a1 < 1) = true := decide_eq_true c5
        clear c5
        simp only [Option.some.injEq, Prod.mk.injEq] at H
        obtain ⟨rfl, rfl⟩ := H
        go_enter Try.func29, Try.ntmps29
        go_wp2
        go_ret2
        exact ⟨by first | rfl | (simp [errW_none, errW_some] <;> rfl) | (simp [*, errW_none, errW_some] <;> rfl), by repeat (first | (with_reducible first | exact HB.out | apply below_alloc | apply pw_below_drewN | apply below_drew1) | exact HB.out)⟩
      · rw [if_neg c5] at H
        have c5b0 : decide (a1 < 1) = false := decide_eq_false c5
        clear c5
        by_cases c6 : a1 > 12
        · rw [if_pos c6] at H
          have c6b0 : decide (12 < a1) = true := decide_eq_true c6
          clear c6
          simp only [Option.some.injEq, Prod.mk.injEq] at H
          obtain ⟨rfl, rfl⟩ := H
          go_enter Try.func29, Try.ntmps29
          go_wp2
          go_ret2
          exact ⟨by first | rfl | (simp [errW_none, errW_some] <;> rfl) | (simp [*, errW_none, errW_some] <;> rfl), by repeat (first | (with_reducible first | exact HB.out | apply below_alloc | apply pw_below_drewN | apply below_drew1) | exact HB.out)⟩
        · rw [if_neg c6] at H
          have c6b0 : decide (12 < a1) = false := decide_eq_false c6
          clear c6
          replace H := Option.bind_eq_some_iff.mp H
          obtain ⟨t184, A70, H⟩ := H
          replace H : (some (t184, true)) = some (r1, r2) := H
          have A7 := Aside0.mk A70
          clear A70
          simp only [Option.some.injEq, Prod.mk.injEq] at H
          obtain ⟨rfl, rfl⟩ := H
          go_enter Try.func29, Try.ntmps29
          go_wp2_with (first | ((with_reducible refine gate_callee (f := 31) rfl ?_); refine goesL_ (some 22) rfl rfl Try.func31 (by kernel_rfl) rfl #[.int .i64 a0, .int .i64 a1] rfl (by (try simp only [List.map_toArray, List.map_cons, List.map_nil]); first | done | rfl | (simp only [List.length_drop, List.length_take]; rfl)) ?_; (with_reducible refine (epactref03_days.calls a0 a1 t184 _ A7.out).mono ?_); rintro e w8 ⟨rfl, hb⟩; refine ⟨_, rfl, ?_⟩; have n0_ := Aside0.mk (below_step (by repeat (first | (with_reducible first | exact HB.out | apply below_alloc | apply pw_below_drewN | apply below_drew1) | exact HB.out)) hb); clear HB; have HB := n0_; clear n0_; (try clear hb); (try clear hb2); (try clear hk); (try clear hi)))
          go_ret2
          exact ⟨by first | rfl | (simp [errW_none, errW_some] <;> rfl) | (simp [*, errW_none, errW_some] <;> rfl), by repeat (first | (with_reducible first | exact HB.out | apply below_alloc | apply pw_below_drewN | apply below_drew1) | exact HB.out)⟩

/-! ### epactref03_Number: function 24 -/
mutual
def epactref03_Number.j0 : Nat → Int → Int → Int → Bool → Option (Int × Bool)
  | 0, _, _, _, _ => none
  | k + 1, x0, x1, x2, x28 => if x28 = true then (some (0, false)) else ((epactref03_first.f x0).bind fun t187 => (epactref03_Number.l0 k x0 x1 (wrap64 ((wrap64 (t187 + x2)) - 1)) 1))
def epactref03_Number.l0 : Nat → Int → Int → Int → Int → Option (Int × Bool)
  | 0, _, _, _, _ => none
  | k + 1, x0, x1, x10, x11 => if x11 < x1 then ((epactref03_days.f x0 x11).bind fun t188 => (epactref03_Number.l0 k x0 x1 (wrap64 (x10 + t188)) (wrap64 (x11 + 1)))) else (some (x10, true))
end
def epactref03_Number.f (k : Nat) (a0 : Int) (a1 : Int) (a2 : Int) : Option (Int × Bool) := (epactref03_Last.f a0 a1).bind fun bt185 => (if bt185.2 = true then (if a2 < 1 then (epactref03_Number.j0 k a0 a1 a2 true) else (epactref03_Number.j0 k a0 a1 a2 (decide (a2 > bt185.1)))) else (epactref03_Number.j0 k a0 a1 a2 true))
theorem epactref03_Number.mono_l : ∀ k, (∀ y0 y1 y2 y3, LeO (epactref03_Number.j0 k y0 y1 y2 y3) (epactref03_Number.j0 (k + 1) y0 y1 y2 y3)) ∧ (∀ y0 y1 y2 y3, LeO (epactref03_Number.l0 k y0 y1 y2 y3) (epactref03_Number.l0 (k + 1) y0 y1 y2 y3))
  | 0 => ⟨fun _ _ _ _ r h => by simp [epactref03_Number.j0] at h, fun _ _ _ _ r h => by simp [epactref03_Number.l0] at h⟩
  | k + 1 => by
    obtain ⟨ih0, ih1⟩ := epactref03_Number.mono_l k
    refine ⟨?_, ?_⟩
    · intro y0 y1 y2 y3
      unfold epactref03_Number.j0
      repeat' first
      | (with_reducible exact ih0 _ _ _ _)
      | (with_reducible exact ih1 _ _ _ _)
      | (with_reducible exact LeO.refl _)
      | (with_reducible exact LeO.none _)
      | (with_reducible refine LeO.ite ?_ ?_)
      | (with_reducible refine LeO.bind ?_ (fun _ => ?_))
      | exact ih0 _ _ _ _
      | exact ih1 _ _ _ _
      | exact LeO.none _
      | refine LeO.ite ?_ ?_
      | refine LeO.bind ?_ (fun _ => ?_)
    · intro y0 y1 y2 y3
      unfold epactref03_Number.l0
      repeat' first
      | (with_reducible exact ih0 _ _ _ _)
      | (with_reducible exact ih1 _ _ _ _)
      | (with_reducible exact LeO.refl _)
      | (with_reducible exact LeO.none _)
      | (with_reducible refine LeO.ite ?_ ?_)
      | (with_reducible refine LeO.bind ?_ (fun _ => ?_))
      | exact ih0 _ _ _ _
      | exact ih1 _ _ _ _
      | exact LeO.none _
      | refine LeO.ite ?_ ?_
      | refine LeO.bind ?_ (fun _ => ?_)
theorem epactref03_Number.mono : ∀ a0 a1 a2 k, LeO (epactref03_Number.f k a0 a1 a2) (epactref03_Number.f (k + 1) a0 a1 a2) := by
  intro a0 a1 a2 k
  obtain ⟨ih0, ih1⟩ := epactref03_Number.mono_l k
  unfold epactref03_Number.f
  repeat' first
      | (with_reducible exact ih0 _ _ _ _)
      | (with_reducible exact ih1 _ _ _ _)
      | (with_reducible exact LeO.refl _)
      | (with_reducible exact LeO.none _)
      | (with_reducible refine LeO.ite ?_ ?_)
      | (with_reducible refine LeO.bind ?_ (fun _ => ?_))
      | exact ih0 _ _ _ _
      | exact ih1 _ _ _ _
      | exact LeO.none _
      | refine LeO.ite ?_ ?_
      | refine LeO.bind ?_ (fun _ => ?_)
set_option maxHeartbeats 8000000 in
set_option maxRecDepth 100000 in
theorem epactref03_Number.calls (k : Nat) (a0 : Int) (a1 : Int) (a2 : Int) (r1 : Int) (r2 : Bool) (w : World) (h : epactref03_Number.f k a0 a1 a2 = some (r1, r2)) :
    Calls Try.prog 24 #[.int .i64 a0, .int .i64 a1, .int .i64 a2] w fun e w' => e = .returned (.tuple #[.int .i64 r1, .bool r2]) ∧ Below w.heap.size w w' := by
  have HB := Aside0.mk (Below.refl w.heap.size w)
  have H : ((epactref03_Last.f a0 a1).bind fun bt185 => (if bt185.2 = true then (if a2 < 1 then (epactref03_Number.j0 k a0 a1 a2 true) else (epactref03_Number.j0 k a0 a1 a2 (decide (a2 > bt185.1)))) else (epactref03_Number.j0 k a0 a1 a2 true))) = some (r1, r2) := h
  clear h
  replace H := Option.bind_eq_some_iff.mp H
  obtain ⟨⟨t185, t186⟩, A40, H⟩ := H
  replace H : (if t186 = true then (if a2 < 1 then (epactref03_Number.j0 k a0 a1 a2 true) else (epactref03_Number.j0 k a0 a1 a2 (decide (a2 > t185)))) else (epactref03_Number.j0 k a0 a1 a2 true)) = some (r1, r2) := H
  have A4 := Aside0.mk A40
  clear A40
  have HC5 := Aside0.mk H
  clear H
  go_enter Try.func24, Try.ntmps24
  go_upto_region 2 with (first | ((with_reducible refine gate_callee (f := 29) rfl ?_); refine goesL_ (some 15) rfl rfl Try.func29 (by kernel_rfl) rfl #[.int .i64 a0, .int .i64 a1] rfl (by (try simp only [List.map_toArray, List.map_cons, List.map_nil]); first | done | rfl | (simp only [List.length_drop, List.length_take]; rfl)) ?_; (with_reducible refine (epactref03_Last.calls a0 a1 t185 t186 _ A4.out).mono ?_); rintro e w6 ⟨rfl, hb⟩; refine ⟨_, rfl, ?_⟩; have n0_ := Aside0.mk (below_step (by repeat (first | (with_reducible first | exact HB.out | apply below_alloc | apply pw_below_drewN | apply below_drew1) | exact HB.out)) hb); clear HB; have HB := n0_; clear n0_; (try clear hb); (try clear hb2); (try clear hk); (try clear hi)))
  (try simp only [Act.put, List.setIfInBounds_toArray, List.set_cons_zero, List.set_cons_succ])
  go_cut [28] (fun v28 wc => ∃ (kq : Nat) (x28_4 : Bool), v28 = .bool x28_4 ∧ Aside0 (epactref03_Number.j0 kq a0 a1 a2 x28_4 = some (r1, r2)) ∧ Aside0 (kq ≤ k) ∧ Aside0 (Below w.heap.size w wc))
  case first =>
    have H := HC5.out
    clear HC5
    by_cases c7 : t186 = true
    · subst c7
      have H1 : (if a2 < 1 then (epactref03_Number.j0 k a0 a1 a2 true) else (epactref03_Number.j0 k a0 a1 a2 (decide (a2 > t185)))) = some (r1, r2) := by rw [if_pos rfl] at H; exact H
      clear H
      have H := H1
      clear H1
      by_cases c8 : a2 < 1
      · rw [if_pos c8] at H
        have c8b0 : decide (a2 < 1) = true := decide_eq_true c8
        clear c8
        (first | rw [c8b0] | (simp only [i64_w, i32_w]; rw [c8b0]) | skip)
        have H' := Aside0.mk H
        clear H
        go_wp2
        go_meet
        case rel => exact ⟨_, (true), (by first | rfl | (simp; done) | (simp [*]; done)), H', ⟨by first | omega | exact Nat.le_refl _⟩, ⟨by repeat (first | (with_reducible first | exact HB.out | apply below_alloc | apply pw_below_drewN | apply below_drew1) | exact HB.out)⟩⟩
      · rw [if_neg c8] at H
        have c8b0 : decide (a2 < 1) = false := decide_eq_false c8
        clear c8
        (first | rw [c8b0] | (simp only [i64_w, i32_w]; rw [c8b0]) | skip)
        have H' := Aside0.mk H
        clear H
        go_wp2
        go_meet
        case rel => exact ⟨_, (decide (a2 > t185)), (by first | rfl | (simp; done) | (simp [*]; done)), H', ⟨by first | omega | exact Nat.le_refl _⟩, ⟨by repeat (first | (with_reducible first | exact HB.out | apply below_alloc | apply pw_below_drewN | apply below_drew1) | exact HB.out)⟩⟩
    · replace c7 := Bool.eq_false_iff.mpr c7
      subst c7
      have H1 : (epactref03_Number.j0 k a0 a1 a2 true) = some (r1, r2) := by rw [if_neg (show ¬ (false = true) by decide)] at H; exact H
      clear H
      have H := H1
      clear H1
      have H' := Aside0.mk H
      clear H
      go_wp2
      go_meet
      case rel => exact ⟨_, (true), (by first | rfl | (simp; done) | (simp [*]; done)), H', ⟨by first | omega | exact Nat.le_refl _⟩, ⟨by repeat (first | (with_reducible first | exact HB.out | apply below_alloc | apply pw_below_drewN | apply below_drew1) | exact HB.out)⟩⟩
  case rest =>
    clear HC5
    try clear c2
    try clear p2
    try clear c7
    try clear c8
    try clear c8b0
    obtain ⟨kq, x28_4, rfl, HA, HJ4, HB⟩ := hcut
    cases kq with
    | zero => exact absurd HA.out (by simp [epactref03_Number.j0])
    | succ kj4 =>
      have H := HA.out
      clear HA
      simp only [epactref03_Number.j0] at H
      by_cases c9 : x28_4 = true
      · subst c9
        have H1 : (some (0, false)) = some (r1, r2) := by rw [if_pos rfl] at H; exact H
        clear H
        have H := H1
        clear H1
        simp only [Option.some.injEq, Prod.mk.injEq] at H
        obtain ⟨rfl, rfl⟩ := H
        go_wp2
        go_ret2
        exact ⟨by first | rfl | (simp [errW_none, errW_some] <;> rfl) | (simp [*, errW_none, errW_some] <;> rfl), by repeat (first | (with_reducible first | exact HB.out | apply below_alloc | apply pw_below_drewN | apply below_drew1) | exact HB.out)⟩
      · replace c9 := Bool.eq_false_iff.mpr c9
        subst c9
        have H1 : ((epactref03_first.f a0).bind fun t187 => (epactref03_Number.l0 kj4 a0 a1 (wrap64 ((wrap64 (t187 + a2)) - 1)) 1)) = some (r1, r2) := by rw [if_neg (show ¬ (false = true) by decide)] at H; exact H
        clear H
        have H := H1
        clear H1
        replace H := Option.bind_eq_some_iff.mp H
        obtain ⟨t187, A100, H⟩ := H
        replace H : (epactref03_Number.l0 kj4 a0 a1 (wrap64 ((wrap64 (t187 + a2)) - 1)) 1) = some (r1, r2) := H
        have A10 := Aside0.mk A100
        clear A100
        have H' := Aside0.mk H
        clear H
        go_wp2_with (first | ((with_reducible refine gate_callee (f := 30) rfl ?_); refine goesL_ (some 30) rfl rfl Try.func30 (by kernel_rfl) rfl #[.int .i64 a0] rfl (by (try simp only [List.map_toArray, List.map_cons, List.map_nil]); first | done | rfl | (simp only [List.length_drop, List.length_take]; rfl)) ?_; (with_reducible refine (epactref03_first.calls a0 t187 _ A10.out).mono ?_); rintro e w' ⟨rfl, ⟨nd, rfl⟩⟩; refine ⟨_, rfl, ?_⟩))
        go_loopg [10, 11] kj4 (fun kq v10 v11 w' => ∃ (x10_2 : Int) (x11_2 : Int), v10 = .int .i64 x10_2 ∧ v11 = .int .i64 x11_2 ∧ Aside0 (epactref03_Number.l0 kq a0 a1 x10_2 x11_2 = some (r1, r2)) ∧ Aside0 (kq ≤ kj4) ∧ Aside0 (Below w.heap.size w w'))
        case atStart => exact ⟨(wrap64 ((wrap64 (t187 + a2)) - 1)), (1), (by first | rfl | (simp; done) | (simp [*]; done)), (by first | rfl | (simp; done) | (simp [*]; done)), H', ⟨Nat.le_refl _⟩, ⟨by repeat (first | (with_reducible first | exact HB.out | apply below_alloc | apply pw_below_drewN | apply below_drew1) | exact HB.out)⟩⟩
        case round =>
          clear H'
          try clear c2
          try clear p2
          try clear c3
          try clear p6
          try clear c7
          try clear c8
          try clear c8b0
          try clear c9
          try clear p2
          obtain ⟨x10_2, x11_2, rfl, rfl, HA, HK2, HB⟩ := hrel
          cases gk with
          | zero => exact absurd HA.out (by simp [epactref03_Number.l0])
          | succ k2 =>
            have H := HA.out
            clear HA
            simp only [epactref03_Number.l0] at H
            by_cases c11 : x11_2 < a1
            · rw [if_pos c11] at H
              have c11b0 : decide (x11_2 < a1) = true := decide_eq_true c11
              clear c11
              replace H := Option.bind_eq_some_iff.mp H
              obtain ⟨t188, A120, H⟩ := H
              replace H : (epactref03_Number.l0 k2 a0 a1 (wrap64 (x10_2 + t188)) (wrap64 (x11_2 + 1))) = some (r1, r2) := H
              have A12 := Aside0.mk A120
              clear A120
              have H' := Aside0.mk H
              clear H
              go_wp2_with (first | ((with_reducible refine gate_callee (f := 31) rfl ?_); refine goesL_ (some 42) rfl rfl Try.func31 (by kernel_rfl) rfl #[.int .i64 a0, .int .i64 x11_2] rfl (by (try simp only [List.map_toArray, List.map_cons, List.map_nil]); first | done | rfl | (simp only [List.length_drop, List.length_take]; rfl)) ?_; (with_reducible refine (epactref03_days.calls a0 x11_2 t188 _ A12.out).mono ?_); rintro e w13 ⟨rfl, hb⟩; refine ⟨_, rfl, ?_⟩; have n0_ := Aside0.mk (below_step (by repeat (first | (with_reducible first | exact HB.out | apply below_alloc | apply pw_below_drewN | apply below_drew1) | exact HB.out)) hb); clear HB; have HB := n0_; clear n0_; (try clear hb); (try clear hb2); (try clear hk); (try clear hi)))
              go_roundg k2
              case measure => have := HJ4.out; have := HK2.out; omega
              case rel => exact ⟨(wrap64 (x10_2 + t188)), (wrap64 (x11_2 + 1)), (by first | rfl | (simp; done) | (simp [*]; done)), (by first | rfl | (simp; done) | (simp [*]; done)), H', ⟨by have := HJ4.out; have := HK2.out; omega⟩, ⟨by repeat (first | (with_reducible first | exact HB.out | apply below_alloc | apply pw_below_drewN | apply below_drew1) | exact HB.out)⟩⟩
            · rw [if_neg c11] at H
              have c11b0 : decide (x11_2 < a1) = false := decide_eq_false c11
              clear c11
              simp only [Option.some.injEq, Prod.mk.injEq] at H
              obtain ⟨rfl, rfl⟩ := H
              go_wp2
              go_ret2
              exact ⟨by first | rfl | (simp [errW_none, errW_some] <;> rfl) | (simp [*, errW_none, errW_some] <;> rfl), by repeat (first | (with_reducible first | exact HB.out | apply below_alloc | apply pw_below_drewN | apply below_drew1) | exact HB.out)⟩

end Go.Proofs.Ytpgkdagjlbcgkaa.PAll
