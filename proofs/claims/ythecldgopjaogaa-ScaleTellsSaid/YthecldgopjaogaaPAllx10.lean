-- Written for this claim by wip/tools of this repo (after the kit's print; own contracts laid in).
import Derived.Test.YthecldgopjaogaaPAllx0
import Derived.Test.YthecldgopjaogaaPAllx3
import Derived.Test.YthecldgopjaogaaPAllx4
import Derived.Test.YthecldgopjaogaaPAllx5
import Derived.Test.YthecldgopjaogaaPAllx8
import Derived.Test.YthecldgopjaogaaPAllx9
namespace Go.Proofs.Ythecldgopjaogaa.PAll
open Go.RowKit Go.Proofs.YthecldgopjaogaaW.PrintWords Go.Proofs.YthecldgopjaogaaW.PrintLast Go.Proofs.YthecldgopjaogaaW.PrintMore
attribute [local go_sem] max2_int min2_int max_two min_two max_three min_three max_four min_four   -- for this text's walks alone
set_option linter.unusedVariables false
set_option linter.unusedSimpArgs false

/-! ### epactref22_Tai: function 13 -/
def epactref22_Tai.j0 : Nat → List (S45) → Int → Int → Bool → List (S53) → Bool → Int → Option (Int × Int)
  | 0, _, _, _, _, _, _, _ => none
  | k + 1, x0, x1, x2, x33, x354000, x354001, x354002 => if x33 = true then (some (0, 9)) else ((epactref09_Length.f k x354000 x354001 x354002 x1).bind fun t354 => (if x2 ≥ t354 then (some (0, 11)) else ((epactref09_Total.f k x354000 x354001 x354002 x1).bind fun t355 => ((epactref22_End.f k x0).bind fun bt356 => (if bt356.2 = true then (if (wrap64 ((wrap64 ((wrap64 (86400 * (wrap64 (x1 - 730)))) + t355)) + x2)) ≥ bt356.1 then (some (0, 10)) else (some (wrap64 ((wrap64 ((wrap64 (86400 * (wrap64 (x1 - 730)))) + t355)) + x2), 0))) else (some (wrap64 ((wrap64 ((wrap64 (86400 * (wrap64 (x1 - 730)))) + t355)) + x2), 0)))))))
def epactref22_Tai.f (k : Nat) (l0 : List (S45)) (a1 : Int) (a2 : Int) : Option (Int × Int) := (epactref22_table.f k l0).bind fun bt347 => (if bt347.2.2.2 = true then (if a1 < 730 then (epactref22_Tai.j0 k l0 a1 a2 true bt347.1 bt347.2.1 bt347.2.2.1) else (if a1 > 2932896 then (epactref22_Tai.j0 k l0 a1 a2 true bt347.1 bt347.2.1 bt347.2.2.1) else (if a2 < 0 then (epactref22_Tai.j0 k l0 a1 a2 true bt347.1 bt347.2.1 bt347.2.2.1) else (epactref22_Tai.j0 k l0 a1 a2 (decide (a2 > 86400)) bt347.1 bt347.2.1 bt347.2.2.1)))) else (some (0, 1)))
theorem epactref22_Tai.mono_l : ∀ k, (∀ y0 y1 y2 y3 y4 y5 y6, LeO (epactref22_Tai.j0 k y0 y1 y2 y3 y4 y5 y6) (epactref22_Tai.j0 (k + 1) y0 y1 y2 y3 y4 y5 y6))
  | 0 => fun _ _ _ _ _ _ _ r h => by simp [epactref22_Tai.j0] at h
  | k + 1 => by
    have ih0 := epactref22_Tai.mono_l k
    · intro y0 y1 y2 y3 y4 y5 y6
      unfold epactref22_Tai.j0
      repeat' first
      | (with_reducible exact ih0 _ _ _ _ _ _ _)
      | (with_reducible exact epactref09_Length.mono _ _ _ _ _)
      | (with_reducible exact epactref09_Total.mono _ _ _ _ _)
      | (with_reducible exact epactref22_End.mono _ _)
      | (with_reducible exact epactref22_table.mono _ _)
      | (with_reducible exact LeO.refl _)
      | (with_reducible exact LeO.none _)
      | (with_reducible refine LeO.ite ?_ ?_)
      | (with_reducible refine LeO.bind ?_ (fun _ => ?_))
      | exact ih0 _ _ _ _ _ _ _
      | exact epactref09_Length.mono _ _ _ _ _
      | exact epactref09_Total.mono _ _ _ _ _
      | exact epactref22_End.mono _ _
      | exact epactref22_table.mono _ _
      | exact LeO.none _
      | refine LeO.ite ?_ ?_
      | refine LeO.bind ?_ (fun _ => ?_)
theorem epactref22_Tai.mono : ∀ a0 a1 a2 k, LeO (epactref22_Tai.f k a0 a1 a2) (epactref22_Tai.f (k + 1) a0 a1 a2) := by
  intro a0 a1 a2 k
  have ih0 := epactref22_Tai.mono_l k
  unfold epactref22_Tai.f
  repeat' first
      | (with_reducible exact ih0 _ _ _ _ _ _ _)
      | (with_reducible exact epactref09_Length.mono _ _ _ _ _)
      | (with_reducible exact epactref09_Total.mono _ _ _ _ _)
      | (with_reducible exact epactref22_End.mono _ _)
      | (with_reducible exact epactref22_table.mono _ _)
      | (with_reducible exact LeO.refl _)
      | (with_reducible exact LeO.none _)
      | (with_reducible refine LeO.ite ?_ ?_)
      | (with_reducible refine LeO.bind ?_ (fun _ => ?_))
      | exact ih0 _ _ _ _ _ _ _
      | exact epactref09_Length.mono _ _ _ _ _
      | exact epactref09_Total.mono _ _ _ _ _
      | exact epactref22_End.mono _ _
      | exact epactref22_table.mono _ _
      | exact LeO.none _
      | refine LeO.ite ?_ ?_
      | refine LeO.bind ?_ (fun _ => ?_)
set_option maxHeartbeats 8000000 in
set_option maxRecDepth 100000 in
theorem epactref22_Tai.calls (k : Nat) (A0 : Option Addr) (c0 : Nat) (l0 : List (S45)) (a1 : Int) (a2 : Int) (r1 : Int) (r2 : Int) (w : World) (hr0 : Kd.C k45 w A0 l0.length l0) (hc0 : l0.length ≤ c0) (h : epactref22_Tai.f k l0 a1 a2 = some (r1, r2)) :
    Calls Try.prog 13 #[.slice A0 l0.length c0, .int .i64 a1, .int .i64 a2] w fun e w' => e = .returned (.tuple #[.int .i64 r1, .int .i64 r2]) ∧ Below w.heap.size w w' := by
  have hu38 := Try.underlying38
  have HR0 := Aside0.mk hr0
  have HC0 := Aside0.mk hc0
  clear hr0 hc0
  have HB := Aside0.mk (Below.refl w.heap.size w)
  have H : ((epactref22_table.f k l0).bind fun bt347 => (if bt347.2.2.2 = true then (if a1 < 730 then (epactref22_Tai.j0 k l0 a1 a2 true bt347.1 bt347.2.1 bt347.2.2.1) else (if a1 > 2932896 then (epactref22_Tai.j0 k l0 a1 a2 true bt347.1 bt347.2.1 bt347.2.2.1) else (if a2 < 0 then (epactref22_Tai.j0 k l0 a1 a2 true bt347.1 bt347.2.1 bt347.2.2.1) else (epactref22_Tai.j0 k l0 a1 a2 (decide (a2 > 86400)) bt347.1 bt347.2.1 bt347.2.2.1)))) else (some (0, 1)))) = some (r1, r2) := h
  clear h
  replace H := Option.bind_eq_some_iff.mp H
  obtain ⟨⟨t347, t350, t351, t352⟩, A40, H⟩ := H
  replace H : (if t352 = true then (if a1 < 730 then (epactref22_Tai.j0 k l0 a1 a2 true t347 t350 t351) else (if a1 > 2932896 then (epactref22_Tai.j0 k l0 a1 a2 true t347 t350 t351) else (if a2 < 0 then (epactref22_Tai.j0 k l0 a1 a2 true t347 t350 t351) else (epactref22_Tai.j0 k l0 a1 a2 (decide (a2 > 86400)) t347 t350 t351)))) else (some (0, 1))) = some (r1, r2) := H
  have A4 := Aside0.mk A40
  clear A40
  by_cases c5 : t352 = true
  · subst c5
    have H1 : (if a1 < 730 then (epactref22_Tai.j0 k l0 a1 a2 true t347 t350 t351) else (if a1 > 2932896 then (epactref22_Tai.j0 k l0 a1 a2 true t347 t350 t351) else (if a2 < 0 then (epactref22_Tai.j0 k l0 a1 a2 true t347 t350 t351) else (epactref22_Tai.j0 k l0 a1 a2 (decide (a2 > 86400)) t347 t350 t351)))) = some (r1, r2) := by rw [if_pos rfl] at H; exact H
    clear H
    have H := H1
    clear H1
    have HC6 := Aside0.mk H
    clear H
    go_enter Try.func13, Try.ntmps13
    go_upto_region 4 with (first | ((with_reducible refine gate_callee (f := 31) rfl ?_); refine goesL_ (some 15) rfl rfl Try.func31 (by kernel_rfl) rfl #[.slice A0 l0.length c0] rfl (by (try simp only [List.map_toArray, List.map_cons, List.map_nil]); first | done | rfl | (simp only [List.length_drop, List.length_take]; rfl)) ?_; (with_reducible refine (epactref22_table.calls k _ _ l0 t347 t350 t351 true _ ?side1 ?side2 A4.out).mono ?_); (case side1 => repeat (first | exact HR0.out | (with_reducible refine Kd.C_alloc ?_ _) | (with_reducible refine Kd.C_drewN ?_ _) | (with_reducible refine Kd.C_drew ?_))); (case side2 => exact HC0.out); rintro e w7 ⟨v348, rfl, ho0, hb⟩; refine ⟨_, rfl, ?_⟩; have n0_ := Aside0.mk (Kd.R_lower ho0 (below_size (by repeat (first | (with_reducible first | exact HB.out | apply below_alloc | apply pw_below_drewN | apply below_drew1) | exact HB.out)))); have n1_ := Aside0.mk (below_step (by repeat (first | (with_reducible first | exact HB.out | apply below_alloc | apply pw_below_drewN | apply below_drew1) | exact HB.out)) hb); clear HB; have HO349 := n0_; have HB := n1_; clear n0_ n1_; (try clear hb); (try clear hb2); (try clear hk); (try clear hi); (try clear ho0)) | ((with_reducible refine gate_dst (N := 8) rfl ?_); refine box_event ?hg (N := 8) ?hd (cs := #[.slice none 0 0, .bool false, .int .i64 0]) (t := 38) ?hr ?_; (case hd => rfl); (case hg => rfl); (case hr => first | (go_simp; done) | (go_simp; rfl)); intro gb353 hg w8 hbox hb; have n0_ := Aside0.mk (Kd.R_below (by (with_reducible repeat (first | apply Kd.R_alloc | apply Kd.R_drewN | apply Kd.R_drew)); exact HO349.out) hb); have n1_ := Aside0.mk (below_step (by repeat (first | (with_reducible first | exact HB.out | apply below_alloc | apply pw_below_drewN | apply below_drew1) | exact HB.out)) hb); have n2_ := Aside0.mk (hbox); have n3_ := Aside0.mk ((by rw [hg]; exact (below_size (by repeat (first | (with_reducible first | exact HB.out | apply below_alloc | apply pw_below_drewN | apply below_drew1) | exact HB.out))) : w.heap.size ≤ gb353)); have n4_ := Aside0.mk ((by rw [hg]; exact (below_size (by repeat (first | (with_reducible first | exact HB.out | apply below_alloc | apply pw_below_drewN | apply below_drew1) | exact HB.out))) : w.heap.size ≤ gb353)); clear HO349; clear HB; have HO349 := n0_; have HB := n1_; have BK353 := n2_; have GW353 := n3_; have GE353 := n4_; clear n0_ n1_ n2_ n3_ n4_; clear hb hbox hg; obtain ⟨Ao9, co9, eo9⟩ := Kd.R_slice HO349.out; subst eo9; have hcz10_0 : w8.cell? ⟨gb353, 0, none⟩ = some (.slice none 0 0) := (blk_cell BK353.out 0).trans rfl; have hcz10_1 : w8.cell? ⟨gb353, 1, none⟩ = some (.bool false) := (blk_cell BK353.out 1).trans rfl; have hcz10_2 : w8.cell? ⟨gb353, 2, none⟩ = some (.int .i64 0) := (blk_cell BK353.out 2).trans rfl; have hfz10_0 := blk_frozen BK353.out 0; have hfz10_1 := blk_frozen BK353.out 1; have hfz10_2 := blk_frozen BK353.out 2))
    (try simp only [Act.put, List.setIfInBounds_toArray, List.set_cons_zero, List.set_cons_succ])
    go_cut [33] (fun v33 wc => ∃ (kq : Nat) (x33_5 : Bool), v33 = .bool x33_5 ∧ Aside0 (epactref22_Tai.j0 kq l0 a1 a2 x33_5 t347 t350 t351 = some (r1, r2)) ∧ Aside0 (kq ≤ k) ∧ Aside0 (Kd.R k53 53 wc w.heap.size (fun _ => True) (.slice Ao9 t347.length co9) t347) ∧ Aside0 (wc.heap[gb353]? = some (.cells #[(.slice Ao9 t347.length co9), .bool t350, .int .i64 t351] 38 (0, 0))) ∧ Aside0 (Below w.heap.size w wc))
    case first =>
      have H := HC6.out
      clear HC6
      by_cases c11 : a1 < 730
      · rw [if_pos c11] at H
        have c11b0 : decide (a1 < 730) = true := decide_eq_true c11
        clear c11
        (first | rw [c11b0] | (simp only [i64_w, i32_w]; rw [c11b0]) | skip)
        have H' := Aside0.mk H
        clear H
        go_wp2
        go_meet
        case rel => exact ⟨_, (true), (by first | rfl | (simp; done) | (simp [*]; done)), H', ⟨by first | omega | exact Nat.le_refl _⟩, ⟨by (with_reducible repeat (first | apply Kd.R_alloc | apply Kd.R_drewN | apply Kd.R_drew)); exact Kd.R_mono (Kd.R_far (p := ⟨gb353, 2, none⟩) (Kd.R_far (p := ⟨gb353, 1, none⟩) (Kd.R_far (p := ⟨gb353, 0, none⟩) (Kd.R_types HO349.out BK353.out (by decide)) (fun _ hk => hk.2) (.slice Ao9 t347.length co9)) (fun _ hk => hk.2) (.bool t350)) (fun _ hk => hk.2) (.int .i64 t351)) (fun _ hk => trivial)⟩, ⟨by (with_reducible repeat (first | refine blk_drewN ?_ _ | refine blk_drew ?_ | refine blk_alloc ?_ _)); refine blk_put (cs := #[.slice Ao9 t347.length co9, .bool t350, .int .i64 0]) ?_ 2 _ rfl; (with_reducible repeat (first | refine blk_drewN ?_ _ | refine blk_drew ?_ | refine blk_alloc ?_ _)); refine blk_put (cs := #[.slice Ao9 t347.length co9, .bool false, .int .i64 0]) ?_ 1 _ rfl; (with_reducible repeat (first | refine blk_drewN ?_ _ | refine blk_drew ?_ | refine blk_alloc ?_ _)); refine blk_put (cs := #[.slice none 0 0, .bool false, .int .i64 0]) ?_ 0 _ rfl; (with_reducible repeat (first | refine blk_drewN ?_ _ | refine blk_drew ?_ | refine blk_alloc ?_ _)); exact BK353.out⟩, ⟨by repeat (first | (with_reducible first | exact HB.out | apply below_alloc | apply pw_below_drewN | apply below_drew1 | refine below_set ?_ GE353.out) | exact HB.out)⟩⟩
      · rw [if_neg c11] at H
        have c11b0 : decide (a1 < 730) = false := decide_eq_false c11
        clear c11
        (first | rw [c11b0] | (simp only [i64_w, i32_w]; rw [c11b0]) | skip)
        by_cases c12 : a1 > 2932896
        · rw [if_pos c12] at H
          have c12b0 : decide (2932896 < a1) = true := decide_eq_true c12
          clear c12
          have H' := Aside0.mk H
          clear H
          go_wp2
          go_meet
          case rel => exact ⟨_, (true), (by first | rfl | (simp; done) | (simp [*]; done)), H', ⟨by first | omega | exact Nat.le_refl _⟩, ⟨by (with_reducible repeat (first | apply Kd.R_alloc | apply Kd.R_drewN | apply Kd.R_drew)); exact Kd.R_mono (Kd.R_far (p := ⟨gb353, 2, none⟩) (Kd.R_far (p := ⟨gb353, 1, none⟩) (Kd.R_far (p := ⟨gb353, 0, none⟩) (Kd.R_types HO349.out BK353.out (by decide)) (fun _ hk => hk.2) (.slice Ao9 t347.length co9)) (fun _ hk => hk.2) (.bool t350)) (fun _ hk => hk.2) (.int .i64 t351)) (fun _ hk => trivial)⟩, ⟨by (with_reducible repeat (first | refine blk_drewN ?_ _ | refine blk_drew ?_ | refine blk_alloc ?_ _)); refine blk_put (cs := #[.slice Ao9 t347.length co9, .bool t350, .int .i64 0]) ?_ 2 _ rfl; (with_reducible repeat (first | refine blk_drewN ?_ _ | refine blk_drew ?_ | refine blk_alloc ?_ _)); refine blk_put (cs := #[.slice Ao9 t347.length co9, .bool false, .int .i64 0]) ?_ 1 _ rfl; (with_reducible repeat (first | refine blk_drewN ?_ _ | refine blk_drew ?_ | refine blk_alloc ?_ _)); refine blk_put (cs := #[.slice none 0 0, .bool false, .int .i64 0]) ?_ 0 _ rfl; (with_reducible repeat (first | refine blk_drewN ?_ _ | refine blk_drew ?_ | refine blk_alloc ?_ _)); exact BK353.out⟩, ⟨by repeat (first | (with_reducible first | exact HB.out | apply below_alloc | apply pw_below_drewN | apply below_drew1 | refine below_set ?_ GE353.out) | exact HB.out)⟩⟩
        · rw [if_neg c12] at H
          have c12b0 : decide (2932896 < a1) = false := decide_eq_false c12
          clear c12
          by_cases c13 : a2 < 0
          · rw [if_pos c13] at H
            have c13b0 : decide (a2 < 0) = true := decide_eq_true c13
            clear c13
            have H' := Aside0.mk H
            clear H
            go_wp2
            go_meet
            case rel => exact ⟨_, (true), (by first | rfl | (simp; done) | (simp [*]; done)), H', ⟨by first | omega | exact Nat.le_refl _⟩, ⟨by (with_reducible repeat (first | apply Kd.R_alloc | apply Kd.R_drewN | apply Kd.R_drew)); exact Kd.R_mono (Kd.R_far (p := ⟨gb353, 2, none⟩) (Kd.R_far (p := ⟨gb353, 1, none⟩) (Kd.R_far (p := ⟨gb353, 0, none⟩) (Kd.R_types HO349.out BK353.out (by decide)) (fun _ hk => hk.2) (.slice Ao9 t347.length co9)) (fun _ hk => hk.2) (.bool t350)) (fun _ hk => hk.2) (.int .i64 t351)) (fun _ hk => trivial)⟩, ⟨by (with_reducible repeat (first | refine blk_drewN ?_ _ | refine blk_drew ?_ | refine blk_alloc ?_ _)); refine blk_put (cs := #[.slice Ao9 t347.length co9, .bool t350, .int .i64 0]) ?_ 2 _ rfl; (with_reducible repeat (first | refine blk_drewN ?_ _ | refine blk_drew ?_ | refine blk_alloc ?_ _)); refine blk_put (cs := #[.slice Ao9 t347.length co9, .bool false, .int .i64 0]) ?_ 1 _ rfl; (with_reducible repeat (first | refine blk_drewN ?_ _ | refine blk_drew ?_ | refine blk_alloc ?_ _)); refine blk_put (cs := #[.slice none 0 0, .bool false, .int .i64 0]) ?_ 0 _ rfl; (with_reducible repeat (first | refine blk_drewN ?_ _ | refine blk_drew ?_ | refine blk_alloc ?_ _)); exact BK353.out⟩, ⟨by repeat (first | (with_reducible first | exact HB.out | apply below_alloc | apply pw_below_drewN | apply below_drew1 | refine below_set ?_ GE353.out) | exact HB.out)⟩⟩
          · rw [if_neg c13] at H
            have c13b0 : decide (a2 < 0) = false := decide_eq_false c13
            clear c13
            have H' := Aside0.mk H
            clear H
            go_wp2
            go_meet
            case rel => exact ⟨_, (decide (a2 > 86400)), (by first | rfl | (simp; done) | (simp [*]; done)), H', ⟨by first | omega | exact Nat.le_refl _⟩, ⟨by (with_reducible repeat (first | apply Kd.R_alloc | apply Kd.R_drewN | apply Kd.R_drew)); exact Kd.R_mono (Kd.R_far (p := ⟨gb353, 2, none⟩) (Kd.R_far (p := ⟨gb353, 1, none⟩) (Kd.R_far (p := ⟨gb353, 0, none⟩) (Kd.R_types HO349.out BK353.out (by decide)) (fun _ hk => hk.2) (.slice Ao9 t347.length co9)) (fun _ hk => hk.2) (.bool t350)) (fun _ hk => hk.2) (.int .i64 t351)) (fun _ hk => trivial)⟩, ⟨by (with_reducible repeat (first | refine blk_drewN ?_ _ | refine blk_drew ?_ | refine blk_alloc ?_ _)); refine blk_put (cs := #[.slice Ao9 t347.length co9, .bool t350, .int .i64 0]) ?_ 2 _ rfl; (with_reducible repeat (first | refine blk_drewN ?_ _ | refine blk_drew ?_ | refine blk_alloc ?_ _)); refine blk_put (cs := #[.slice Ao9 t347.length co9, .bool false, .int .i64 0]) ?_ 1 _ rfl; (with_reducible repeat (first | refine blk_drewN ?_ _ | refine blk_drew ?_ | refine blk_alloc ?_ _)); refine blk_put (cs := #[.slice none 0 0, .bool false, .int .i64 0]) ?_ 0 _ rfl; (with_reducible repeat (first | refine blk_drewN ?_ _ | refine blk_drew ?_ | refine blk_alloc ?_ _)); exact BK353.out⟩, ⟨by repeat (first | (with_reducible first | exact HB.out | apply below_alloc | apply pw_below_drewN | apply below_drew1 | refine below_set ?_ GE353.out) | exact HB.out)⟩⟩
    case rest =>
      clear HC6
      try clear c1
      try clear p2
      try clear c3
      try clear c5
      try clear c11
      try clear c11b0
      try clear c12
      try clear c12b0
      try clear c13
      try clear c13b0
      try clear hcz10_0
      try clear hcz10_1
      try clear hcz10_2
      try clear hfz10_0
      try clear hfz10_1
      try clear hfz10_2
      obtain ⟨kq, x33_5, rfl, HA, HJ5, HO_354000, BK353, HB⟩ := hcut
      cases kq with
      | zero => exact absurd HA.out (by simp [epactref22_Tai.j0])
      | succ kj5 =>
        have H := HA.out
        clear HA
        simp only [epactref22_Tai.j0] at H
        by_cases c14 : x33_5 = true
        · subst c14
          have H1 : (some (0, 9)) = some (r1, r2) := by rw [if_pos rfl] at H; exact H
          clear H
          have H := H1
          clear H1
          simp only [Option.some.injEq, Prod.mk.injEq] at H
          obtain ⟨rfl, rfl⟩ := H
          go_wp2
          go_ret2
          exact ⟨by first | rfl | (simp [errW_none, errW_some] <;> rfl) | (simp [*, errW_none, errW_some] <;> rfl), by repeat (first | (with_reducible first | exact HB.out | apply below_alloc | apply pw_below_drewN | apply below_drew1 | refine below_set ?_ GE353.out) | exact HB.out)⟩
        · replace c14 := Bool.eq_false_iff.mpr c14
          subst c14
          have H1 : ((epactref09_Length.f kj5 t347 t350 t351 a1).bind fun t354 => (if a2 ≥ t354 then (some (0, 11)) else ((epactref09_Total.f kj5 t347 t350 t351 a1).bind fun t355 => ((epactref22_End.f kj5 l0).bind fun bt356 => (if bt356.2 = true then (if (wrap64 ((wrap64 ((wrap64 (86400 * (wrap64 (a1 - 730)))) + t355)) + a2)) ≥ bt356.1 then (some (0, 10)) else (some (wrap64 ((wrap64 ((wrap64 (86400 * (wrap64 (a1 - 730)))) + t355)) + a2), 0))) else (some (wrap64 ((wrap64 ((wrap64 (86400 * (wrap64 (a1 - 730)))) + t355)) + a2), 0))))))) = some (r1, r2) := by rw [if_neg (show ¬ (false = true) by decide)] at H; exact H
          clear H
          have H := H1
          clear H1
          replace H := Option.bind_eq_some_iff.mp H
          obtain ⟨t354, A150, H⟩ := H
          replace H : (if a2 ≥ t354 then (some (0, 11)) else ((epactref09_Total.f kj5 t347 t350 t351 a1).bind fun t355 => ((epactref22_End.f kj5 l0).bind fun bt356 => (if bt356.2 = true then (if (wrap64 ((wrap64 ((wrap64 (86400 * (wrap64 (a1 - 730)))) + t355)) + a2)) ≥ bt356.1 then (some (0, 10)) else (some (wrap64 ((wrap64 ((wrap64 (86400 * (wrap64 (a1 - 730)))) + t355)) + a2), 0))) else (some (wrap64 ((wrap64 ((wrap64 (86400 * (wrap64 (a1 - 730)))) + t355)) + a2), 0)))))) = some (r1, r2) := H
          have A15 := Aside0.mk A150
          clear A150
          by_cases c16 : a2 ≥ t354
          · rw [if_pos c16] at H
            have c16b0 : decide (t354 ≤ a2) = true := decide_eq_true c16
            clear c16
            simp only [Option.some.injEq, Prod.mk.injEq] at H
            obtain ⟨rfl, rfl⟩ := H
            have hcz17_0 : wc.cell? ⟨gb353, 0, none⟩ = some (.slice Ao9 t347.length co9) := (blk_cell BK353.out 0).trans rfl
            have hcz17_1 : wc.cell? ⟨gb353, 1, none⟩ = some (.bool t350) := (blk_cell BK353.out 1).trans rfl
            have hcz17_2 : wc.cell? ⟨gb353, 2, none⟩ = some (.int .i64 t351) := (blk_cell BK353.out 2).trans rfl
            have hfz17_0 := blk_frozen BK353.out 0
            have hfz17_1 := blk_frozen BK353.out 1
            have hfz17_2 := blk_frozen BK353.out 2
            go_wp2_with (first | ((with_reducible refine gate_callee (f := 33) rfl ?_); refine goesL_ (some 37) rfl rfl Try.func33 (by kernel_rfl) rfl #[.agg #[.slice Ao9 t347.length co9, .bool t350, .int .i64 t351], .int .i64 a1] rfl (by (try simp only [List.map_toArray, List.map_cons, List.map_nil]); first | done | rfl | (simp only [List.length_drop, List.length_take]; rfl)) ?_; (with_reducible refine (epactref09_Length.calls kj5 _ _ t347 t350 t351 a1 t354 _ ?side1 ?side2 A15.out).mono ?_); (case side1 => repeat (first | exact (Kd.R_reads' HO_354000.out).2.2 | (with_reducible refine Kd.C_alloc ?_ _) | (with_reducible refine Kd.C_drewN ?_ _) | (with_reducible refine Kd.C_drew ?_))); (case side2 => exact (Kd.R_reads' HO_354000.out).2.1); rintro e w18 ⟨rfl, hb⟩; refine ⟨_, rfl, ?_⟩; have n0_ := Aside0.mk (Kd.R_below (by (with_reducible repeat (first | apply Kd.R_alloc | apply Kd.R_drewN | apply Kd.R_drew)); exact HO_354000.out) hb); have n1_ := Aside0.mk (blk_below (g := gb353) (o := .cells #[.slice Ao9 t347.length co9, .bool t350, .int .i64 t351] 38 (0, 0)) (by (with_reducible repeat (first | refine blk_drewN ?_ _ | refine blk_drew ?_ | refine blk_alloc ?_ _)); exact BK353.out) hb); have n2_ := Aside0.mk (below_step (by repeat (first | (with_reducible first | exact HB.out | apply below_alloc | apply pw_below_drewN | apply below_drew1 | refine below_set ?_ GE353.out) | exact HB.out)) hb); clear HO_354000; clear BK353; clear HB; have HO_354000 := n0_; have BK353 := n1_; have HB := n2_; clear n0_ n1_ n2_; (try clear hb); (try clear hb2); (try clear hk); (try clear hi)))
            go_ret2
            exact ⟨by first | rfl | (simp [errW_none, errW_some] <;> rfl) | (simp [*, errW_none, errW_some] <;> rfl), by repeat (first | (with_reducible first | exact HB.out | apply below_alloc | apply pw_below_drewN | apply below_drew1 | refine below_set ?_ GE353.out) | exact HB.out)⟩
          · rw [if_neg c16] at H
            have c16b0 : decide (t354 ≤ a2) = false := decide_eq_false c16
            clear c16
            replace H := Option.bind_eq_some_iff.mp H
            obtain ⟨t355, A190, H⟩ := H
            replace H : ((epactref22_End.f kj5 l0).bind fun bt356 => (if bt356.2 = true then (if (wrap64 ((wrap64 ((wrap64 (86400 * (wrap64 (a1 - 730)))) + t355)) + a2)) ≥ bt356.1 then (some (0, 10)) else (some (wrap64 ((wrap64 ((wrap64 (86400 * (wrap64 (a1 - 730)))) + t355)) + a2), 0))) else (some (wrap64 ((wrap64 ((wrap64 (86400 * (wrap64 (a1 - 730)))) + t355)) + a2), 0)))) = some (r1, r2) := H
            have A19 := Aside0.mk A190
            clear A190
            replace H := Option.bind_eq_some_iff.mp H
            obtain ⟨⟨t356, t357⟩, A200, H⟩ := H
            replace H : (if t357 = true then (if (wrap64 ((wrap64 ((wrap64 (86400 * (wrap64 (a1 - 730)))) + t355)) + a2)) ≥ t356 then (some (0, 10)) else (some (wrap64 ((wrap64 ((wrap64 (86400 * (wrap64 (a1 - 730)))) + t355)) + a2), 0))) else (some (wrap64 ((wrap64 ((wrap64 (86400 * (wrap64 (a1 - 730)))) + t355)) + a2), 0))) = some (r1, r2) := H
            have A20 := Aside0.mk A200
            clear A200
            by_cases c21 : t357 = true
            · subst c21
              have H1 : (if (wrap64 ((wrap64 ((wrap64 (86400 * (wrap64 (a1 - 730)))) + t355)) + a2)) ≥ t356 then (some (0, 10)) else (some (wrap64 ((wrap64 ((wrap64 (86400 * (wrap64 (a1 - 730)))) + t355)) + a2), 0))) = some (r1, r2) := by rw [if_pos rfl] at H; exact H
              clear H
              have H := H1
              clear H1
              by_cases c22 : (wrap64 ((wrap64 ((wrap64 (86400 * (wrap64 (a1 - 730)))) + t355)) + a2)) ≥ t356
              · rw [if_pos c22] at H
                have c22b0 : decide (t356 ≤ (wrap64 ((wrap64 ((wrap64 (86400 * (wrap64 (a1 - 730)))) + t355)) + a2))) = true := decide_eq_true c22
                clear c22
                simp only [Option.some.injEq, Prod.mk.injEq] at H
                obtain ⟨rfl, rfl⟩ := H
                have hcz23_0 : wc.cell? ⟨gb353, 0, none⟩ = some (.slice Ao9 t347.length co9) := (blk_cell BK353.out 0).trans rfl
                have hcz23_1 : wc.cell? ⟨gb353, 1, none⟩ = some (.bool t350) := (blk_cell BK353.out 1).trans rfl
                have hcz23_2 : wc.cell? ⟨gb353, 2, none⟩ = some (.int .i64 t351) := (blk_cell BK353.out 2).trans rfl
                have hfz23_0 := blk_frozen BK353.out 0
                have hfz23_1 := blk_frozen BK353.out 1
                have hfz23_2 := blk_frozen BK353.out 2
                go_wp2_with (first | ((with_reducible refine gate_callee (f := 33) rfl ?_); refine goesL_ (some 37) rfl rfl Try.func33 (by kernel_rfl) rfl #[.agg #[.slice Ao9 t347.length co9, .bool t350, .int .i64 t351], .int .i64 a1] rfl (by (try simp only [List.map_toArray, List.map_cons, List.map_nil]); first | done | rfl | (simp only [List.length_drop, List.length_take]; rfl)) ?_; (with_reducible refine (epactref09_Length.calls kj5 _ _ t347 t350 t351 a1 t354 _ ?side1 ?side2 A15.out).mono ?_); (case side1 => repeat (first | exact (Kd.R_reads' HO_354000.out).2.2 | (with_reducible refine Kd.C_alloc ?_ _) | (with_reducible refine Kd.C_drewN ?_ _) | (with_reducible refine Kd.C_drew ?_))); (case side2 => exact (Kd.R_reads' HO_354000.out).2.1); rintro e w24 ⟨rfl, hb⟩; refine ⟨_, rfl, ?_⟩; have n0_ := Aside0.mk (Kd.R_below (by (with_reducible repeat (first | apply Kd.R_alloc | apply Kd.R_drewN | apply Kd.R_drew)); exact HO_354000.out) hb); have n1_ := Aside0.mk (blk_below (g := gb353) (o := .cells #[.slice Ao9 t347.length co9, .bool t350, .int .i64 t351] 38 (0, 0)) (by (with_reducible repeat (first | refine blk_drewN ?_ _ | refine blk_drew ?_ | refine blk_alloc ?_ _)); exact BK353.out) hb); have n2_ := Aside0.mk (below_step (by repeat (first | (with_reducible first | exact HB.out | apply below_alloc | apply pw_below_drewN | apply below_drew1 | refine below_set ?_ GE353.out) | exact HB.out)) hb); clear HO_354000; clear BK353; clear HB; have HO_354000 := n0_; have BK353 := n1_; have HB := n2_; clear n0_ n1_ n2_; (try clear hb); (try clear hb2); (try clear hk); (try clear hi); have hcz25_0 : w24.cell? ⟨gb353, 0, none⟩ = some (.slice Ao9 t347.length co9) := (blk_cell BK353.out 0).trans rfl; have hcz25_1 : w24.cell? ⟨gb353, 1, none⟩ = some (.bool t350) := (blk_cell BK353.out 1).trans rfl; have hcz25_2 : w24.cell? ⟨gb353, 2, none⟩ = some (.int .i64 t351) := (blk_cell BK353.out 2).trans rfl; have hfz25_0 := blk_frozen BK353.out 0; have hfz25_1 := blk_frozen BK353.out 1; have hfz25_2 := blk_frozen BK353.out 2) | ((with_reducible refine gate_callee (f := 34) rfl ?_); refine goesL_ (some 44) rfl rfl Try.func34 (by kernel_rfl) rfl #[.agg #[.slice Ao9 t347.length co9, .bool t350, .int .i64 t351], .int .i64 a1] rfl (by (try simp only [List.map_toArray, List.map_cons, List.map_nil]); first | done | rfl | (simp only [List.length_drop, List.length_take]; rfl)) ?_; (with_reducible refine (epactref09_Total.calls kj5 _ _ t347 t350 t351 a1 t355 _ ?side1 ?side2 A19.out).mono ?_); (case side1 => repeat (first | exact (Kd.R_reads' HO_354000.out).2.2 | (with_reducible refine Kd.C_alloc ?_ _) | (with_reducible refine Kd.C_drewN ?_ _) | (with_reducible refine Kd.C_drew ?_))); (case side2 => exact (Kd.R_reads' HO_354000.out).2.1); rintro e w26 ⟨rfl, hb⟩; refine ⟨_, rfl, ?_⟩; have n0_ := Aside0.mk (Kd.R_below (by (with_reducible repeat (first | apply Kd.R_alloc | apply Kd.R_drewN | apply Kd.R_drew)); exact HO_354000.out) hb); have n1_ := Aside0.mk (blk_below (g := gb353) (o := .cells #[.slice Ao9 t347.length co9, .bool t350, .int .i64 t351] 38 (0, 0)) (by (with_reducible repeat (first | refine blk_drewN ?_ _ | refine blk_drew ?_ | refine blk_alloc ?_ _)); exact BK353.out) hb); have n2_ := Aside0.mk (below_step (by repeat (first | (with_reducible first | exact HB.out | apply below_alloc | apply pw_below_drewN | apply below_drew1 | refine below_set ?_ GE353.out) | exact HB.out)) hb); clear HO_354000; clear BK353; clear HB; have HO_354000 := n0_; have BK353 := n1_; have HB := n2_; clear n0_ n1_ n2_; (try clear hb); (try clear hb2); (try clear hk); (try clear hi)) | ((with_reducible refine gate_callee (f := 17) rfl ?_); refine goesL_ (some 50) rfl rfl Try.func17 (by kernel_rfl) rfl #[.slice A0 l0.length c0] rfl (by (try simp only [List.map_toArray, List.map_cons, List.map_nil]); first | done | rfl | (simp only [List.length_drop, List.length_take]; rfl)) ?_; (with_reducible refine (epactref22_End.calls kj5 _ _ l0 t356 true _ ?side1 ?side2 A20.out).mono ?_); (case side1 => repeat (first | exact (Kd.C_below HR0.out HB.out) | (with_reducible refine Kd.C_alloc ?_ _) | (with_reducible refine Kd.C_drewN ?_ _) | (with_reducible refine Kd.C_drew ?_))); (case side2 => exact HC0.out); rintro e w27 ⟨rfl, hb⟩; refine ⟨_, rfl, ?_⟩; have n0_ := Aside0.mk (Kd.R_below (by (with_reducible repeat (first | apply Kd.R_alloc | apply Kd.R_drewN | apply Kd.R_drew)); exact HO_354000.out) hb); have n1_ := Aside0.mk (blk_below (g := gb353) (o := .cells #[.slice Ao9 t347.length co9, .bool t350, .int .i64 t351] 38 (0, 0)) (by (with_reducible repeat (first | refine blk_drewN ?_ _ | refine blk_drew ?_ | refine blk_alloc ?_ _)); exact BK353.out) hb); have n2_ := Aside0.mk (below_step (by repeat (first | (with_reducible first | exact HB.out | apply below_alloc | apply pw_below_drewN | apply below_drew1 | refine below_set ?_ GE353.out) | exact HB.out)) hb); clear HO_354000; clear BK353; clear HB; have HO_354000 := n0_; have BK353 := n1_; have HB := n2_; clear n0_ n1_ n2_; (try clear hb); (try clear hb2); (try clear hk); (try clear hi)))
                go_ret2
                exact ⟨by first | rfl | (simp [errW_none, errW_some] <;> rfl) | (simp [*, errW_none, errW_some] <;> rfl), by repeat (first | (with_reducible first | exact HB.out | apply below_alloc | apply pw_below_drewN | apply below_drew1 | refine below_set ?_ GE353.out) | exact HB.out)⟩
              · rw [if_neg c22] at H
                have c22b0 : decide (t356 ≤ (wrap64 ((wrap64 ((wrap64 (86400 * (wrap64 (a1 - 730)))) + t355)) + a2))) = false := decide_eq_false c22
                clear c22
                simp only [Option.some.injEq, Prod.mk.injEq] at H
                obtain ⟨rfl, rfl⟩ := H
                have hcz28_0 : wc.cell? ⟨gb353, 0, none⟩ = some (.slice Ao9 t347.length co9) := (blk_cell BK353.out 0).trans rfl
                have hcz28_1 : wc.cell? ⟨gb353, 1, none⟩ = some (.bool t350) := (blk_cell BK353.out 1).trans rfl
                have hcz28_2 : wc.cell? ⟨gb353, 2, none⟩ = some (.int .i64 t351) := (blk_cell BK353.out 2).trans rfl
                have hfz28_0 := blk_frozen BK353.out 0
                have hfz28_1 := blk_frozen BK353.out 1
                have hfz28_2 := blk_frozen BK353.out 2
                go_wp2_with (first | ((with_reducible refine gate_callee (f := 33) rfl ?_); refine goesL_ (some 37) rfl rfl Try.func33 (by kernel_rfl) rfl #[.agg #[.slice Ao9 t347.length co9, .bool t350, .int .i64 t351], .int .i64 a1] rfl (by (try simp only [List.map_toArray, List.map_cons, List.map_nil]); first | done | rfl | (simp only [List.length_drop, List.length_take]; rfl)) ?_; (with_reducible refine (epactref09_Length.calls kj5 _ _ t347 t350 t351 a1 t354 _ ?side1 ?side2 A15.out).mono ?_); (case side1 => repeat (first | exact (Kd.R_reads' HO_354000.out).2.2 | (with_reducible refine Kd.C_alloc ?_ _) | (with_reducible refine Kd.C_drewN ?_ _) | (with_reducible refine Kd.C_drew ?_))); (case side2 => exact (Kd.R_reads' HO_354000.out).2.1); rintro e w29 ⟨rfl, hb⟩; refine ⟨_, rfl, ?_⟩; have n0_ := Aside0.mk (Kd.R_below (by (with_reducible repeat (first | apply Kd.R_alloc | apply Kd.R_drewN | apply Kd.R_drew)); exact HO_354000.out) hb); have n1_ := Aside0.mk (blk_below (g := gb353) (o := .cells #[.slice Ao9 t347.length co9, .bool t350, .int .i64 t351] 38 (0, 0)) (by (with_reducible repeat (first | refine blk_drewN ?_ _ | refine blk_drew ?_ | refine blk_alloc ?_ _)); exact BK353.out) hb); have n2_ := Aside0.mk (below_step (by repeat (first | (with_reducible first | exact HB.out | apply below_alloc | apply pw_below_drewN | apply below_drew1 | refine below_set ?_ GE353.out) | exact HB.out)) hb); clear HO_354000; clear BK353; clear HB; have HO_354000 := n0_; have BK353 := n1_; have HB := n2_; clear n0_ n1_ n2_; (try clear hb); (try clear hb2); (try clear hk); (try clear hi); have hcz30_0 : w29.cell? ⟨gb353, 0, none⟩ = some (.slice Ao9 t347.length co9) := (blk_cell BK353.out 0).trans rfl; have hcz30_1 : w29.cell? ⟨gb353, 1, none⟩ = some (.bool t350) := (blk_cell BK353.out 1).trans rfl; have hcz30_2 : w29.cell? ⟨gb353, 2, none⟩ = some (.int .i64 t351) := (blk_cell BK353.out 2).trans rfl; have hfz30_0 := blk_frozen BK353.out 0; have hfz30_1 := blk_frozen BK353.out 1; have hfz30_2 := blk_frozen BK353.out 2) | ((with_reducible refine gate_callee (f := 34) rfl ?_); refine goesL_ (some 44) rfl rfl Try.func34 (by kernel_rfl) rfl #[.agg #[.slice Ao9 t347.length co9, .bool t350, .int .i64 t351], .int .i64 a1] rfl (by (try simp only [List.map_toArray, List.map_cons, List.map_nil]); first | done | rfl | (simp only [List.length_drop, List.length_take]; rfl)) ?_; (with_reducible refine (epactref09_Total.calls kj5 _ _ t347 t350 t351 a1 t355 _ ?side1 ?side2 A19.out).mono ?_); (case side1 => repeat (first | exact (Kd.R_reads' HO_354000.out).2.2 | (with_reducible refine Kd.C_alloc ?_ _) | (with_reducible refine Kd.C_drewN ?_ _) | (with_reducible refine Kd.C_drew ?_))); (case side2 => exact (Kd.R_reads' HO_354000.out).2.1); rintro e w31 ⟨rfl, hb⟩; refine ⟨_, rfl, ?_⟩; have n0_ := Aside0.mk (Kd.R_below (by (with_reducible repeat (first | apply Kd.R_alloc | apply Kd.R_drewN | apply Kd.R_drew)); exact HO_354000.out) hb); have n1_ := Aside0.mk (blk_below (g := gb353) (o := .cells #[.slice Ao9 t347.length co9, .bool t350, .int .i64 t351] 38 (0, 0)) (by (with_reducible repeat (first | refine blk_drewN ?_ _ | refine blk_drew ?_ | refine blk_alloc ?_ _)); exact BK353.out) hb); have n2_ := Aside0.mk (below_step (by repeat (first | (with_reducible first | exact HB.out | apply below_alloc | apply pw_below_drewN | apply below_drew1 | refine below_set ?_ GE353.out) | exact HB.out)) hb); clear HO_354000; clear BK353; clear HB; have HO_354000 := n0_; have BK353 := n1_; have HB := n2_; clear n0_ n1_ n2_; (try clear hb); (try clear hb2); (try clear hk); (try clear hi)) | ((with_reducible refine gate_callee (f := 17) rfl ?_); refine goesL_ (some 50) rfl rfl Try.func17 (by kernel_rfl) rfl #[.slice A0 l0.length c0] rfl (by (try simp only [List.map_toArray, List.map_cons, List.map_nil]); first | done | rfl | (simp only [List.length_drop, List.length_take]; rfl)) ?_; (with_reducible refine (epactref22_End.calls kj5 _ _ l0 t356 true _ ?side1 ?side2 A20.out).mono ?_); (case side1 => repeat (first | exact (Kd.C_below HR0.out HB.out) | (with_reducible refine Kd.C_alloc ?_ _) | (with_reducible refine Kd.C_drewN ?_ _) | (with_reducible refine Kd.C_drew ?_))); (case side2 => exact HC0.out); rintro e w32 ⟨rfl, hb⟩; refine ⟨_, rfl, ?_⟩; have n0_ := Aside0.mk (Kd.R_below (by (with_reducible repeat (first | apply Kd.R_alloc | apply Kd.R_drewN | apply Kd.R_drew)); exact HO_354000.out) hb); have n1_ := Aside0.mk (blk_below (g := gb353) (o := .cells #[.slice Ao9 t347.length co9, .bool t350, .int .i64 t351] 38 (0, 0)) (by (with_reducible repeat (first | refine blk_drewN ?_ _ | refine blk_drew ?_ | refine blk_alloc ?_ _)); exact BK353.out) hb); have n2_ := Aside0.mk (below_step (by repeat (first | (with_reducible first | exact HB.out | apply below_alloc | apply pw_below_drewN | apply below_drew1 | refine below_set ?_ GE353.out) | exact HB.out)) hb); clear HO_354000; clear BK353; clear HB; have HO_354000 := n0_; have BK353 := n1_; have HB := n2_; clear n0_ n1_ n2_; (try clear hb); (try clear hb2); (try clear hk); (try clear hi)))
                go_ret2
                exact ⟨by first | rfl | (simp [errW_none, errW_some] <;> rfl) | (simp [*, errW_none, errW_some] <;> rfl), by repeat (first | (with_reducible first | exact HB.out | apply below_alloc | apply pw_below_drewN | apply below_drew1 | refine below_set ?_ GE353.out) | exact HB.out)⟩
            · replace c21 := Bool.eq_false_iff.mpr c21
              subst c21
              have H1 : (some (wrap64 ((wrap64 ((wrap64 (86400 * (wrap64 (a1 - 730)))) + t355)) + a2), 0)) = some (r1, r2) := by rw [if_neg (show ¬ (false = true) by decide)] at H; exact H
              clear H
              have H := H1
              clear H1
              simp only [Option.some.injEq, Prod.mk.injEq] at H
              obtain ⟨rfl, rfl⟩ := H
              have hcz33_0 : wc.cell? ⟨gb353, 0, none⟩ = some (.slice Ao9 t347.length co9) := (blk_cell BK353.out 0).trans rfl
              have hcz33_1 : wc.cell? ⟨gb353, 1, none⟩ = some (.bool t350) := (blk_cell BK353.out 1).trans rfl
              have hcz33_2 : wc.cell? ⟨gb353, 2, none⟩ = some (.int .i64 t351) := (blk_cell BK353.out 2).trans rfl
              have hfz33_0 := blk_frozen BK353.out 0
              have hfz33_1 := blk_frozen BK353.out 1
              have hfz33_2 := blk_frozen BK353.out 2
              go_wp2_with (first | ((with_reducible refine gate_callee (f := 33) rfl ?_); refine goesL_ (some 37) rfl rfl Try.func33 (by kernel_rfl) rfl #[.agg #[.slice Ao9 t347.length co9, .bool t350, .int .i64 t351], .int .i64 a1] rfl (by (try simp only [List.map_toArray, List.map_cons, List.map_nil]); first | done | rfl | (simp only [List.length_drop, List.length_take]; rfl)) ?_; (with_reducible refine (epactref09_Length.calls kj5 _ _ t347 t350 t351 a1 t354 _ ?side1 ?side2 A15.out).mono ?_); (case side1 => repeat (first | exact (Kd.R_reads' HO_354000.out).2.2 | (with_reducible refine Kd.C_alloc ?_ _) | (with_reducible refine Kd.C_drewN ?_ _) | (with_reducible refine Kd.C_drew ?_))); (case side2 => exact (Kd.R_reads' HO_354000.out).2.1); rintro e w34 ⟨rfl, hb⟩; refine ⟨_, rfl, ?_⟩; have n0_ := Aside0.mk (Kd.R_below (by (with_reducible repeat (first | apply Kd.R_alloc | apply Kd.R_drewN | apply Kd.R_drew)); exact HO_354000.out) hb); have n1_ := Aside0.mk (blk_below (g := gb353) (o := .cells #[.slice Ao9 t347.length co9, .bool t350, .int .i64 t351] 38 (0, 0)) (by (with_reducible repeat (first | refine blk_drewN ?_ _ | refine blk_drew ?_ | refine blk_alloc ?_ _)); exact BK353.out) hb); have n2_ := Aside0.mk (below_step (by repeat (first | (with_reducible first | exact HB.out | apply below_alloc | apply pw_below_drewN | apply below_drew1 | refine below_set ?_ GE353.out) | exact HB.out)) hb); clear HO_354000; clear BK353; clear HB; have HO_354000 := n0_; have BK353 := n1_; have HB := n2_; clear n0_ n1_ n2_; (try clear hb); (try clear hb2); (try clear hk); (try clear hi); have hcz35_0 : w34.cell? ⟨gb353, 0, none⟩ = some (.slice Ao9 t347.length co9) := (blk_cell BK353.out 0).trans rfl; have hcz35_1 : w34.cell? ⟨gb353, 1, none⟩ = some (.bool t350) := (blk_cell BK353.out 1).trans rfl; have hcz35_2 : w34.cell? ⟨gb353, 2, none⟩ = some (.int .i64 t351) := (blk_cell BK353.out 2).trans rfl; have hfz35_0 := blk_frozen BK353.out 0; have hfz35_1 := blk_frozen BK353.out 1; have hfz35_2 := blk_frozen BK353.out 2) | ((with_reducible refine gate_callee (f := 34) rfl ?_); refine goesL_ (some 44) rfl rfl Try.func34 (by kernel_rfl) rfl #[.agg #[.slice Ao9 t347.length co9, .bool t350, .int .i64 t351], .int .i64 a1] rfl (by (try simp only [List.map_toArray, List.map_cons, List.map_nil]); first | done | rfl | (simp only [List.length_drop, List.length_take]; rfl)) ?_; (with_reducible refine (epactref09_Total.calls kj5 _ _ t347 t350 t351 a1 t355 _ ?side1 ?side2 A19.out).mono ?_); (case side1 => repeat (first | exact (Kd.R_reads' HO_354000.out).2.2 | (with_reducible refine Kd.C_alloc ?_ _) | (with_reducible refine Kd.C_drewN ?_ _) | (with_reducible refine Kd.C_drew ?_))); (case side2 => exact (Kd.R_reads' HO_354000.out).2.1); rintro e w36 ⟨rfl, hb⟩; refine ⟨_, rfl, ?_⟩; have n0_ := Aside0.mk (Kd.R_below (by (with_reducible repeat (first | apply Kd.R_alloc | apply Kd.R_drewN | apply Kd.R_drew)); exact HO_354000.out) hb); have n1_ := Aside0.mk (blk_below (g := gb353) (o := .cells #[.slice Ao9 t347.length co9, .bool t350, .int .i64 t351] 38 (0, 0)) (by (with_reducible repeat (first | refine blk_drewN ?_ _ | refine blk_drew ?_ | refine blk_alloc ?_ _)); exact BK353.out) hb); have n2_ := Aside0.mk (below_step (by repeat (first | (with_reducible first | exact HB.out | apply below_alloc | apply pw_below_drewN | apply below_drew1 | refine below_set ?_ GE353.out) | exact HB.out)) hb); clear HO_354000; clear BK353; clear HB; have HO_354000 := n0_; have BK353 := n1_; have HB := n2_; clear n0_ n1_ n2_; (try clear hb); (try clear hb2); (try clear hk); (try clear hi)) | ((with_reducible refine gate_callee (f := 17) rfl ?_); refine goesL_ (some 50) rfl rfl Try.func17 (by kernel_rfl) rfl #[.slice A0 l0.length c0] rfl (by (try simp only [List.map_toArray, List.map_cons, List.map_nil]); first | done | rfl | (simp only [List.length_drop, List.length_take]; rfl)) ?_; (with_reducible refine (epactref22_End.calls kj5 _ _ l0 t356 false _ ?side1 ?side2 A20.out).mono ?_); (case side1 => repeat (first | exact (Kd.C_below HR0.out HB.out) | (with_reducible refine Kd.C_alloc ?_ _) | (with_reducible refine Kd.C_drewN ?_ _) | (with_reducible refine Kd.C_drew ?_))); (case side2 => exact HC0.out); rintro e w37 ⟨rfl, hb⟩; refine ⟨_, rfl, ?_⟩; have n0_ := Aside0.mk (Kd.R_below (by (with_reducible repeat (first | apply Kd.R_alloc | apply Kd.R_drewN | apply Kd.R_drew)); exact HO_354000.out) hb); have n1_ := Aside0.mk (blk_below (g := gb353) (o := .cells #[.slice Ao9 t347.length co9, .bool t350, .int .i64 t351] 38 (0, 0)) (by (with_reducible repeat (first | refine blk_drewN ?_ _ | refine blk_drew ?_ | refine blk_alloc ?_ _)); exact BK353.out) hb); have n2_ := Aside0.mk (below_step (by repeat (first | (with_reducible first | exact HB.out | apply below_alloc | apply pw_below_drewN | apply below_drew1 | refine below_set ?_ GE353.out) | exact HB.out)) hb); clear HO_354000; clear BK353; clear HB; have HO_354000 := n0_; have BK353 := n1_; have HB := n2_; clear n0_ n1_ n2_; (try clear hb); (try clear hb2); (try clear hk); (try clear hi)))
              go_ret2
              exact ⟨by first | rfl | (simp [errW_none, errW_some] <;> rfl) | (simp [*, errW_none, errW_some] <;> rfl), by repeat (first | (with_reducible first | exact HB.out | apply below_alloc | apply pw_below_drewN | apply below_drew1 | refine below_set ?_ GE353.out) | exact HB.out)⟩
  · replace c5 := Bool.eq_false_iff.mpr c5
    subst c5
    have H1 : (some (0, 1)) = some (r1, r2) := by rw [if_neg (show ¬ (false = true) by decide)] at H; exact H
    clear H
    have H := H1
    clear H1
    simp only [Option.some.injEq, Prod.mk.injEq] at H
    obtain ⟨rfl, rfl⟩ := H
    go_enter Try.func13, Try.ntmps13
    go_wp2_with (first | ((with_reducible refine gate_callee (f := 31) rfl ?_); refine goesL_ (some 15) rfl rfl Try.func31 (by kernel_rfl) rfl #[.slice A0 l0.length c0] rfl (by (try simp only [List.map_toArray, List.map_cons, List.map_nil]); first | done | rfl | (simp only [List.length_drop, List.length_take]; rfl)) ?_; (with_reducible refine (epactref22_table.calls k _ _ l0 t347 t350 t351 false _ ?side1 ?side2 A4.out).mono ?_); (case side1 => repeat (first | exact HR0.out | (with_reducible refine Kd.C_alloc ?_ _) | (with_reducible refine Kd.C_drewN ?_ _) | (with_reducible refine Kd.C_drew ?_))); (case side2 => exact HC0.out); rintro e w38 ⟨v348, rfl, ho0, hb⟩; refine ⟨_, rfl, ?_⟩; have n0_ := Aside0.mk (Kd.R_lower ho0 (below_size (by repeat (first | (with_reducible first | exact HB.out | apply below_alloc | apply pw_below_drewN | apply below_drew1) | exact HB.out)))); have n1_ := Aside0.mk (below_step (by repeat (first | (with_reducible first | exact HB.out | apply below_alloc | apply pw_below_drewN | apply below_drew1) | exact HB.out)) hb); clear HB; have HO349 := n0_; have HB := n1_; clear n0_ n1_; (try clear hb); (try clear hb2); (try clear hk); (try clear hi); (try clear ho0)) | ((with_reducible refine gate_dst (N := 8) rfl ?_); refine box_event ?hg (N := 8) ?hd (cs := #[.slice none 0 0, .bool false, .int .i64 0]) (t := 38) ?hr ?_; (case hd => rfl); (case hg => rfl); (case hr => first | (go_simp; done) | (go_simp; rfl)); intro gb353 hg w39 hbox hb; have n0_ := Aside0.mk (Kd.R_below (by (with_reducible repeat (first | apply Kd.R_alloc | apply Kd.R_drewN | apply Kd.R_drew)); exact HO349.out) hb); have n1_ := Aside0.mk (below_step (by repeat (first | (with_reducible first | exact HB.out | apply below_alloc | apply pw_below_drewN | apply below_drew1) | exact HB.out)) hb); have n2_ := Aside0.mk (hbox); have n3_ := Aside0.mk ((by rw [hg]; exact (below_size (by repeat (first | (with_reducible first | exact HB.out | apply below_alloc | apply pw_below_drewN | apply below_drew1) | exact HB.out))) : w.heap.size ≤ gb353)); have n4_ := Aside0.mk ((by rw [hg]; exact (below_size (by repeat (first | (with_reducible first | exact HB.out | apply below_alloc | apply pw_below_drewN | apply below_drew1) | exact HB.out))) : w.heap.size ≤ gb353)); clear HO349; clear HB; have HO349 := n0_; have HB := n1_; have BK353 := n2_; have GW353 := n3_; have GE353 := n4_; clear n0_ n1_ n2_ n3_ n4_; clear hb hbox hg; obtain ⟨Ao40, co40, eo40⟩ := Kd.R_slice HO349.out; subst eo40; have hcz41_0 : w39.cell? ⟨gb353, 0, none⟩ = some (.slice none 0 0) := (blk_cell BK353.out 0).trans rfl; have hcz41_1 : w39.cell? ⟨gb353, 1, none⟩ = some (.bool false) := (blk_cell BK353.out 1).trans rfl; have hcz41_2 : w39.cell? ⟨gb353, 2, none⟩ = some (.int .i64 0) := (blk_cell BK353.out 2).trans rfl; have hfz41_0 := blk_frozen BK353.out 0; have hfz41_1 := blk_frozen BK353.out 1; have hfz41_2 := blk_frozen BK353.out 2))
    go_ret2
    exact ⟨by first | rfl | (simp [errW_none, errW_some] <;> rfl) | (simp [*, errW_none, errW_some] <;> rfl), by repeat (first | (with_reducible first | exact HB.out | apply below_alloc | apply pw_below_drewN | apply below_drew1 | refine below_set ?_ GE353.out) | exact HB.out)⟩

/-! ### epactref22_Length: function 15 -/
def epactref22_Length.j0 : Nat → List (S45) → Int → Int → Bool → Option (Int × Int)
  | 0, _, _, _, _ => none
  | k + 1, x0, x1, x7, x21 => if x21 = true then (some (0, x7)) else ((epactref22_table.f k x0).bind fun bt360 => ((epactref09_Length.f k bt360.1 bt360.2.1 bt360.2.2.1 x1).bind fun t367 => (some (t367, 0))))
def epactref22_Length.f (k : Nat) (l0 : List (S45)) (a1 : Int) : Option (Int × Int) := (epactref22_Tai.f k l0 a1 0).bind fun bt358 => (if bt358.2 = 0 then (epactref22_Length.j0 k l0 a1 bt358.2 false) else (epactref22_Length.j0 k l0 a1 bt358.2 (bt358.2 != 10)))
theorem epactref22_Length.mono_l : ∀ k, (∀ y0 y1 y2 y3, LeO (epactref22_Length.j0 k y0 y1 y2 y3) (epactref22_Length.j0 (k + 1) y0 y1 y2 y3))
  | 0 => fun _ _ _ _ r h => by simp [epactref22_Length.j0] at h
  | k + 1 => by
    have ih0 := epactref22_Length.mono_l k
    · intro y0 y1 y2 y3
      unfold epactref22_Length.j0
      repeat' first
      | (with_reducible exact ih0 _ _ _ _)
      | (with_reducible exact epactref09_Length.mono _ _ _ _ _)
      | (with_reducible exact epactref22_Tai.mono _ _ _ _)
      | (with_reducible exact epactref22_table.mono _ _)
      | (with_reducible exact LeO.refl _)
      | (with_reducible exact LeO.none _)
      | (with_reducible refine LeO.ite ?_ ?_)
      | (with_reducible refine LeO.bind ?_ (fun _ => ?_))
      | exact ih0 _ _ _ _
      | exact epactref09_Length.mono _ _ _ _ _
      | exact epactref22_Tai.mono _ _ _ _
      | exact epactref22_table.mono _ _
      | exact LeO.none _
      | refine LeO.ite ?_ ?_
      | refine LeO.bind ?_ (fun _ => ?_)
theorem epactref22_Length.mono : ∀ a0 a1 k, LeO (epactref22_Length.f k a0 a1) (epactref22_Length.f (k + 1) a0 a1) := by
  intro a0 a1 k
  have ih0 := epactref22_Length.mono_l k
  unfold epactref22_Length.f
  repeat' first
      | (with_reducible exact ih0 _ _ _ _)
      | (with_reducible exact epactref09_Length.mono _ _ _ _ _)
      | (with_reducible exact epactref22_Tai.mono _ _ _ _)
      | (with_reducible exact epactref22_table.mono _ _)
      | (with_reducible exact LeO.refl _)
      | (with_reducible exact LeO.none _)
      | (with_reducible refine LeO.ite ?_ ?_)
      | (with_reducible refine LeO.bind ?_ (fun _ => ?_))
      | exact ih0 _ _ _ _
      | exact epactref09_Length.mono _ _ _ _ _
      | exact epactref22_Tai.mono _ _ _ _
      | exact epactref22_table.mono _ _
      | exact LeO.none _
      | refine LeO.ite ?_ ?_
      | refine LeO.bind ?_ (fun _ => ?_)
set_option maxHeartbeats 8000000 in
set_option maxRecDepth 100000 in
theorem epactref22_Length.calls (k : Nat) (A0 : Option Addr) (c0 : Nat) (l0 : List (S45)) (a1 : Int) (r1 : Int) (r2 : Int) (w : World) (hr0 : Kd.C k45 w A0 l0.length l0) (hc0 : l0.length ≤ c0) (h : epactref22_Length.f k l0 a1 = some (r1, r2)) :
    Calls Try.prog 15 #[.slice A0 l0.length c0, .int .i64 a1] w fun e w' => e = .returned (.tuple #[.int .i64 r1, .int .i64 r2]) ∧ Below w.heap.size w w' := by
  have hu38 := Try.underlying38
  have HR0 := Aside0.mk hr0
  have HC0 := Aside0.mk hc0
  clear hr0 hc0
  have HB := Aside0.mk (Below.refl w.heap.size w)
  have H : ((epactref22_Tai.f k l0 a1 0).bind fun bt358 => (if bt358.2 = 0 then (epactref22_Length.j0 k l0 a1 bt358.2 false) else (epactref22_Length.j0 k l0 a1 bt358.2 (bt358.2 != 10)))) = some (r1, r2) := h
  clear h
  replace H := Option.bind_eq_some_iff.mp H
  obtain ⟨⟨t358, t359⟩, A30, H⟩ := H
  replace H : (if t359 = 0 then (epactref22_Length.j0 k l0 a1 t359 false) else (epactref22_Length.j0 k l0 a1 t359 (t359 != 10))) = some (r1, r2) := H
  have A3 := Aside0.mk A30
  clear A30
  have HC4 := Aside0.mk H
  clear H
  go_enter Try.func15, Try.ntmps15
  go_upto_region 2 with (first | ((with_reducible refine gate_callee (f := 13) rfl ?_); refine goesL_ (some 13) rfl rfl Try.func13 (by kernel_rfl) rfl #[.slice A0 l0.length c0, .int .i64 a1, .int .i64 0] rfl (by (try simp only [List.map_toArray, List.map_cons, List.map_nil]); first | done | rfl | (simp only [List.length_drop, List.length_take]; rfl)) ?_; (with_reducible refine (epactref22_Tai.calls k _ _ l0 a1 0 t358 t359 _ ?side1 ?side2 A3.out).mono ?_); (case side1 => repeat (first | exact HR0.out | (with_reducible refine Kd.C_alloc ?_ _) | (with_reducible refine Kd.C_drewN ?_ _) | (with_reducible refine Kd.C_drew ?_))); (case side2 => exact HC0.out); rintro e w5 ⟨rfl, hb⟩; refine ⟨_, rfl, ?_⟩; have n0_ := Aside0.mk (below_step (by repeat (first | (with_reducible first | exact HB.out | apply below_alloc | apply pw_below_drewN | apply below_drew1) | exact HB.out)) hb); clear HB; have HB := n0_; clear n0_; (try clear hb); (try clear hb2); (try clear hk); (try clear hi)))
  (try simp only [Act.put, List.setIfInBounds_toArray, List.set_cons_zero, List.set_cons_succ])
  go_cut [21] (fun v21 wc => ∃ (kq : Nat) (x21_3 : Bool), v21 = .bool x21_3 ∧ Aside0 (epactref22_Length.j0 kq l0 a1 t359 x21_3 = some (r1, r2)) ∧ Aside0 (kq ≤ k) ∧ Aside0 (Below w.heap.size w wc))
  case first =>
    have H := HC4.out
    clear HC4
    by_cases c6 : t359 = 0
    · rw [if_pos c6] at H
      have c6b0 : (t359 == 0) = true := beq_iff_eq.mpr c6
      have c6b1 : (t359 != 0) = false := bne_eq_false_iff_eq.mpr c6
      clear c6
      (first | rw [c6b0] | (simp only [i64_w, i32_w]; rw [c6b0]) | skip)
      have H' := Aside0.mk H
      clear H
      go_wp2
      go_meet
      case rel => exact ⟨_, (false), (by first | rfl | (simp; done) | (simp [*]; done)), H', ⟨by first | omega | exact Nat.le_refl _⟩, ⟨by repeat (first | (with_reducible first | exact HB.out | apply below_alloc | apply pw_below_drewN | apply below_drew1) | exact HB.out)⟩⟩
    · rw [if_neg c6] at H
      have c6b0 : (t359 == 0) = false := beq_eq_false_iff_ne.mpr c6
      have c6b1 : (t359 != 0) = true := bne_iff_ne.mpr c6
      (first | rw [c6b0] | (simp only [i64_w, i32_w]; rw [c6b0]) | skip)
      have H' := Aside0.mk H
      clear H
      go_wp2
      go_meet
      case rel => exact ⟨_, ((t359 != 10)), (by first | rfl | (simp; done) | (simp [*]; done)), H', ⟨by first | omega | exact Nat.le_refl _⟩, ⟨by repeat (first | (with_reducible first | exact HB.out | apply below_alloc | apply pw_below_drewN | apply below_drew1) | exact HB.out)⟩⟩
  case rest =>
    clear HC4
    try clear c1
    try clear p2
    try clear c6
    try clear c6b0
    try clear c6b1
    obtain ⟨kq, x21_3, rfl, HA, HJ3, HB⟩ := hcut
    cases kq with
    | zero => exact absurd HA.out (by simp [epactref22_Length.j0])
    | succ kj3 =>
      have H := HA.out
      clear HA
      simp only [epactref22_Length.j0] at H
      by_cases c7 : x21_3 = true
      · subst c7
        have H1 : (some (0, t359)) = some (r1, r2) := by rw [if_pos rfl] at H; exact H
        clear H
        have H := H1
        clear H1
        simp only [Option.some.injEq, Prod.mk.injEq] at H
        obtain ⟨rfl, rfl⟩ := H
        go_wp2
        go_ret2
        exact ⟨by first | rfl | (simp [errW_none, errW_some] <;> rfl) | (simp [*, errW_none, errW_some] <;> rfl), by repeat (first | (with_reducible first | exact HB.out | apply below_alloc | apply pw_below_drewN | apply below_drew1) | exact HB.out)⟩
      · replace c7 := Bool.eq_false_iff.mpr c7
        subst c7
        have H1 : ((epactref22_table.f kj3 l0).bind fun bt360 => ((epactref09_Length.f kj3 bt360.1 bt360.2.1 bt360.2.2.1 a1).bind fun t367 => (some (t367, 0)))) = some (r1, r2) := by rw [if_neg (show ¬ (false = true) by decide)] at H; exact H
        clear H
        have H := H1
        clear H1
        replace H := Option.bind_eq_some_iff.mp H
        obtain ⟨⟨t360, t363, t364, t365⟩, A80, H⟩ := H
        replace H : ((epactref09_Length.f kj3 t360 t363 t364 a1).bind fun t367 => (some (t367, 0))) = some (r1, r2) := H
        have A8 := Aside0.mk A80
        clear A80
        replace H := Option.bind_eq_some_iff.mp H
        obtain ⟨t367, A90, H⟩ := H
        replace H : (some (t367, 0)) = some (r1, r2) := H
        have A9 := Aside0.mk A90
        clear A90
        simp only [Option.some.injEq, Prod.mk.injEq] at H
        obtain ⟨rfl, rfl⟩ := H
        go_wp2_with (first | ((with_reducible refine gate_callee (f := 31) rfl ?_); refine goesL_ (some 25) rfl rfl Try.func31 (by kernel_rfl) rfl #[.slice A0 l0.length c0] rfl (by (try simp only [List.map_toArray, List.map_cons, List.map_nil]); first | done | rfl | (simp only [List.length_drop, List.length_take]; rfl)) ?_; (with_reducible refine (epactref22_table.calls kj3 _ _ l0 t360 t363 t364 t365 _ ?side1 ?side2 A8.out).mono ?_); (case side1 => repeat (first | exact (Kd.C_below HR0.out HB.out) | (with_reducible refine Kd.C_alloc ?_ _) | (with_reducible refine Kd.C_drewN ?_ _) | (with_reducible refine Kd.C_drew ?_))); (case side2 => exact HC0.out); rintro e w10 ⟨v361, rfl, ho0, hb⟩; refine ⟨_, rfl, ?_⟩; have n0_ := Aside0.mk (Kd.R_lower ho0 (below_size (by repeat (first | (with_reducible first | exact HB.out | apply below_alloc | apply pw_below_drewN | apply below_drew1) | exact HB.out)))); have n1_ := Aside0.mk (below_step (by repeat (first | (with_reducible first | exact HB.out | apply below_alloc | apply pw_below_drewN | apply below_drew1) | exact HB.out)) hb); clear HB; have HO362 := n0_; have HB := n1_; clear n0_ n1_; (try clear hb); (try clear hb2); (try clear hk); (try clear hi); (try clear ho0)) | ((with_reducible refine gate_dst (N := 8) rfl ?_); refine box_event ?hg (N := 8) ?hd (cs := #[.slice none 0 0, .bool false, .int .i64 0]) (t := 38) ?hr ?_; (case hd => rfl); (case hg => rfl); (case hr => first | (go_simp; done) | (go_simp; rfl)); intro gb366 hg w11 hbox hb; have n0_ := Aside0.mk (Kd.R_below (by (with_reducible repeat (first | apply Kd.R_alloc | apply Kd.R_drewN | apply Kd.R_drew)); exact HO362.out) hb); have n1_ := Aside0.mk (below_step (by repeat (first | (with_reducible first | exact HB.out | apply below_alloc | apply pw_below_drewN | apply below_drew1) | exact HB.out)) hb); have n2_ := Aside0.mk (hbox); have n3_ := Aside0.mk ((by rw [hg]; exact (below_size (by repeat (first | (with_reducible first | exact HB.out | apply below_alloc | apply pw_below_drewN | apply below_drew1) | exact HB.out))) : w.heap.size ≤ gb366)); have n4_ := Aside0.mk ((by rw [hg]; exact (below_size (by repeat (first | (with_reducible first | exact HB.out | apply below_alloc | apply pw_below_drewN | apply below_drew1) | exact HB.out))) : w.heap.size ≤ gb366)); clear HO362; clear HB; have HO362 := n0_; have HB := n1_; have BK366 := n2_; have GW366 := n3_; have GE366 := n4_; clear n0_ n1_ n2_ n3_ n4_; clear hb hbox hg; obtain ⟨Ao12, co12, eo12⟩ := Kd.R_slice HO362.out; subst eo12; have hcz13_0 : w11.cell? ⟨gb366, 0, none⟩ = some (.slice none 0 0) := (blk_cell BK366.out 0).trans rfl; have hcz13_1 : w11.cell? ⟨gb366, 1, none⟩ = some (.bool false) := (blk_cell BK366.out 1).trans rfl; have hcz13_2 : w11.cell? ⟨gb366, 2, none⟩ = some (.int .i64 0) := (blk_cell BK366.out 2).trans rfl; have hfz13_0 := blk_frozen BK366.out 0; have hfz13_1 := blk_frozen BK366.out 1; have hfz13_2 := blk_frozen BK366.out 2) | ((with_reducible refine gate_callee (f := 33) rfl ?_); refine goesL_ (some 30) rfl rfl Try.func33 (by kernel_rfl) rfl #[.agg #[.slice Ao12 t360.length co12, .bool t363, .int .i64 t364], .int .i64 a1] rfl (by (try simp only [List.map_toArray, List.map_cons, List.map_nil]); first | done | rfl | (simp only [List.length_drop, List.length_take]; rfl)) ?_; (with_reducible refine (epactref09_Length.calls kj3 _ _ t360 t363 t364 a1 t367 _ ?side1 ?side2 A9.out).mono ?_); (case side1 => refine (Kd.R_reads' (e := 53) (base := w.heap.size) (ok := fun k_ => True) (n := t360.length) (c := co12) ?_).2.2; exact (by (with_reducible repeat (first | apply Kd.R_alloc | apply Kd.R_drewN | apply Kd.R_drew)); exact (Kd.R_mono (Kd.R_far (p := ⟨gb366, 2, none⟩) (Kd.R_far (p := ⟨gb366, 1, none⟩) (Kd.R_far (p := ⟨gb366, 0, none⟩) (Kd.R_types HO362.out BK366.out (by decide)) (fun _ hk => hk.2) (.slice Ao12 t360.length co12)) (fun _ hk => hk.2) (.bool t363)) (fun _ hk => hk.2) (.int .i64 t364)) (fun _ h_ => h_.1)))); (case side2 => exact (Kd.R_reads' HO362.out).2.1); rintro e w14 ⟨rfl, hb⟩; refine ⟨_, rfl, ?_⟩; have n0_ := Aside0.mk (Kd.R_below (by (with_reducible repeat (first | apply Kd.R_alloc | apply Kd.R_drewN | apply Kd.R_drew)); exact (Kd.R_mono (Kd.R_far (p := ⟨gb366, 2, none⟩) (Kd.R_far (p := ⟨gb366, 1, none⟩) (Kd.R_far (p := ⟨gb366, 0, none⟩) (Kd.R_types HO362.out BK366.out (by decide)) (fun _ hk => hk.2) (.slice Ao12 t360.length co12)) (fun _ hk => hk.2) (.bool t363)) (fun _ hk => hk.2) (.int .i64 t364)) (fun _ h_ => h_.1))) hb); have n1_ := Aside0.mk (blk_below (g := gb366) (o := .cells #[.slice Ao12 t360.length co12, .bool t363, .int .i64 t364] 38 (0, 0)) (by (with_reducible repeat (first | refine blk_drewN ?_ _ | refine blk_drew ?_ | refine blk_alloc ?_ _)); refine blk_put (cs := #[.slice Ao12 t360.length co12, .bool t363, .int .i64 0]) ?_ 2 _ rfl; (with_reducible repeat (first | refine blk_drewN ?_ _ | refine blk_drew ?_ | refine blk_alloc ?_ _)); refine blk_put (cs := #[.slice Ao12 t360.length co12, .bool false, .int .i64 0]) ?_ 1 _ rfl; (with_reducible repeat (first | refine blk_drewN ?_ _ | refine blk_drew ?_ | refine blk_alloc ?_ _)); refine blk_put (cs := #[.slice none 0 0, .bool false, .int .i64 0]) ?_ 0 _ rfl; (with_reducible repeat (first | refine blk_drewN ?_ _ | refine blk_drew ?_ | refine blk_alloc ?_ _)); exact BK366.out) hb); have n2_ := Aside0.mk (below_step (by repeat (first | (with_reducible first | exact HB.out | apply below_alloc | apply pw_below_drewN | apply below_drew1 | refine below_set ?_ GE366.out) | exact HB.out)) hb); clear HO362; clear BK366; clear HB; have HO362 := n0_; have BK366 := n1_; have HB := n2_; clear n0_ n1_ n2_; (try clear hb); (try clear hb2); (try clear hk); (try clear hi)))
        go_ret2
        exact ⟨by first | rfl | (simp [errW_none, errW_some] <;> rfl) | (simp [*, errW_none, errW_some] <;> rfl), by repeat (first | (with_reducible first | exact HB.out | apply below_alloc | apply pw_below_drewN | apply below_drew1 | refine below_set ?_ GE366.out) | exact HB.out)⟩

/-! ### epactref22_Known: function 19 -/
def epactref22_Known.f (k : Nat) (l0 : List (S45)) : Option (Bool) := (epactref22_table.f k l0).bind fun bt368 => (some bt368.2.2.2)
theorem epactref22_Known.mono : ∀ a0 k, LeO (epactref22_Known.f k a0) (epactref22_Known.f (k + 1) a0) := by
  intro a0 k
  unfold epactref22_Known.f
  repeat' first
      | (with_reducible exact epactref22_table.mono _ _)
      | (with_reducible exact LeO.refl _)
      | (with_reducible exact LeO.none _)
      | (with_reducible refine LeO.ite ?_ ?_)
      | (with_reducible refine LeO.bind ?_ (fun _ => ?_))
      | exact epactref22_table.mono _ _
      | exact LeO.none _
      | refine LeO.ite ?_ ?_
      | refine LeO.bind ?_ (fun _ => ?_)
set_option maxHeartbeats 8000000 in
set_option maxRecDepth 100000 in
theorem epactref22_Known.calls (k : Nat) (A0 : Option Addr) (c0 : Nat) (l0 : List (S45)) (r : Bool) (w : World) (hr0 : Kd.C k45 w A0 l0.length l0) (hc0 : l0.length ≤ c0) (h : epactref22_Known.f k l0 = some r) :
    Calls Try.prog 19 #[.slice A0 l0.length c0] w fun e w' => e = .returned (.bool r) ∧ Below w.heap.size w w' := by
  have hu38 := Try.underlying38
  have HR0 := Aside0.mk hr0
  have HC0 := Aside0.mk hc0
  clear hr0 hc0
  have HB := Aside0.mk (Below.refl w.heap.size w)
  have H : ((epactref22_table.f k l0).bind fun bt368 => (some bt368.2.2.2)) = some r := h
  clear h
  replace H := Option.bind_eq_some_iff.mp H
  obtain ⟨⟨t368, t371, t372, t373⟩, A20, H⟩ := H
  replace H : (some t373) = some r := H
  have A2 := Aside0.mk A20
  clear A20
  obtain rfl := Option.some.inj H
  go_enter Try.func19, Try.ntmps19
  go_wp2_with (first | ((with_reducible refine gate_callee (f := 31) rfl ?_); refine goesL_ (some 7) rfl rfl Try.func31 (by kernel_rfl) rfl #[.slice A0 l0.length c0] rfl (by (try simp only [List.map_toArray, List.map_cons, List.map_nil]); first | done | rfl | (simp only [List.length_drop, List.length_take]; rfl)) ?_; (with_reducible refine (epactref22_table.calls k _ _ l0 t368 t371 t372 t373 _ ?side1 ?side2 A2.out).mono ?_); (case side1 => repeat (first | exact HR0.out | (with_reducible refine Kd.C_alloc ?_ _) | (with_reducible refine Kd.C_drewN ?_ _) | (with_reducible refine Kd.C_drew ?_))); (case side2 => exact HC0.out); rintro e w3 ⟨v369, rfl, ho0, hb⟩; refine ⟨_, rfl, ?_⟩; have n0_ := Aside0.mk (Kd.R_lower ho0 (below_size (by repeat (first | (with_reducible first | exact HB.out | apply below_alloc | apply pw_below_drewN | apply below_drew1) | exact HB.out)))); have n1_ := Aside0.mk (below_step (by repeat (first | (with_reducible first | exact HB.out | apply below_alloc | apply pw_below_drewN | apply below_drew1) | exact HB.out)) hb); clear HB; have HO370 := n0_; have HB := n1_; clear n0_ n1_; (try clear hb); (try clear hb2); (try clear hk); (try clear hi); (try clear ho0)) | ((with_reducible refine gate_dst (N := 3) rfl ?_); refine box_event ?hg (N := 3) ?hd (cs := #[.slice none 0 0, .bool false, .int .i64 0]) (t := 38) ?hr ?_; (case hd => rfl); (case hg => rfl); (case hr => first | (go_simp; done) | (go_simp; rfl)); intro gb374 hg w4 hbox hb; have n0_ := Aside0.mk (Kd.R_below (by (with_reducible repeat (first | apply Kd.R_alloc | apply Kd.R_drewN | apply Kd.R_drew)); exact HO370.out) hb); have n1_ := Aside0.mk (below_step (by repeat (first | (with_reducible first | exact HB.out | apply below_alloc | apply pw_below_drewN | apply below_drew1) | exact HB.out)) hb); have n2_ := Aside0.mk (hbox); have n3_ := Aside0.mk ((by rw [hg]; exact (below_size (by repeat (first | (with_reducible first | exact HB.out | apply below_alloc | apply pw_below_drewN | apply below_drew1) | exact HB.out))) : w.heap.size ≤ gb374)); have n4_ := Aside0.mk ((by rw [hg]; exact (below_size (by repeat (first | (with_reducible first | exact HB.out | apply below_alloc | apply pw_below_drewN | apply below_drew1) | exact HB.out))) : w.heap.size ≤ gb374)); clear HO370; clear HB; have HO370 := n0_; have HB := n1_; have BK374 := n2_; have GW374 := n3_; have GE374 := n4_; clear n0_ n1_ n2_ n3_ n4_; clear hb hbox hg; obtain ⟨Ao5, co5, eo5⟩ := Kd.R_slice HO370.out; subst eo5; have hcz6_0 : w4.cell? ⟨gb374, 0, none⟩ = some (.slice none 0 0) := (blk_cell BK374.out 0).trans rfl; have hcz6_1 : w4.cell? ⟨gb374, 1, none⟩ = some (.bool false) := (blk_cell BK374.out 1).trans rfl; have hcz6_2 : w4.cell? ⟨gb374, 2, none⟩ = some (.int .i64 0) := (blk_cell BK374.out 2).trans rfl; have hfz6_0 := blk_frozen BK374.out 0; have hfz6_1 := blk_frozen BK374.out 1; have hfz6_2 := blk_frozen BK374.out 2))
  go_ret
  exact ⟨by first | rfl | (simp [errW_none, errW_some] <;> rfl) | (simp [*, errW_none, errW_some] <;> rfl), by repeat (first | (with_reducible first | exact HB.out | apply below_alloc | apply pw_below_drewN | apply below_drew1 | refine below_set ?_ GE374.out) | exact HB.out)⟩

/-! ### epactlaw22_ScaleTells: function 3 -/
def epactlaw22_ScaleTells.f (k : Nat) (l0 : List (S45)) (a1 : Int) (a2 : Int) (a3 : Int) : Option (Bool) := (epactlaw22_small.f k).bind fun t375 => (if (l0.length : Int) > 300 then (some t375) else ((scale_Utc.f k l0 a1).bind fun bt376 => ((epactref22_Utc.f k l0 a1).bind fun bt379 => ((scale_Tai.f k l0 a2 a3).bind fun bt382 => ((epactref22_Tai.f k l0 a2 a3).bind fun bt384 => ((scale_Length.f k l0 a2).bind fun bt386 => ((epactref22_Length.f k l0 a2).bind fun bt388 => ((scale_End.f k l0).bind fun bt390 => ((epactref22_End.f k l0).bind fun bt392 => (if t375 = true then (if bt376.1 = bt379.1 then (if bt376.2.1 = bt379.2.1 then (if bt376.2.2 = bt379.2.2 then (if bt382.1 = bt384.1 then (if bt382.2 = bt384.2 then (if bt386.1 = bt388.1 then (if bt386.2 = bt388.2 then (if bt390.1 = bt392.1 then (if (bt390.2 == bt392.2) = true then ((scale_Known.f k l0).bind fun t394 => ((epactref22_Known.f k l0).bind fun t395 => (some (t394 == t395)))) else (none)) else (none)) else (none)) else (none)) else (none)) else (none)) else (none)) else (none)) else (none)) else (none)))))))))))
theorem epactlaw22_ScaleTells.mono : ∀ a0 a1 a2 a3 k, LeO (epactlaw22_ScaleTells.f k a0 a1 a2 a3) (epactlaw22_ScaleTells.f (k + 1) a0 a1 a2 a3) := by
  intro a0 a1 a2 a3 k
  unfold epactlaw22_ScaleTells.f
  repeat' first
      | (with_reducible exact epactlaw22_small.mono _)
      | (with_reducible exact epactref22_End.mono _ _)
      | (with_reducible exact epactref22_Known.mono _ _)
      | (with_reducible exact epactref22_Length.mono _ _ _)
      | (with_reducible exact epactref22_Tai.mono _ _ _ _)
      | (with_reducible exact epactref22_Utc.mono _ _ _)
      | (with_reducible exact scale_End.mono _ _)
      | (with_reducible exact scale_Known.mono _ _)
      | (with_reducible exact scale_Length.mono _ _ _)
      | (with_reducible exact scale_Tai.mono _ _ _ _)
      | (with_reducible exact scale_Utc.mono _ _ _)
      | (with_reducible exact LeO.refl _)
      | (with_reducible exact LeO.none _)
      | (with_reducible refine LeO.ite ?_ ?_)
      | (with_reducible refine LeO.bind ?_ (fun _ => ?_))
      | exact epactlaw22_small.mono _
      | exact epactref22_End.mono _ _
      | exact epactref22_Known.mono _ _
      | exact epactref22_Length.mono _ _ _
      | exact epactref22_Tai.mono _ _ _ _
      | exact epactref22_Utc.mono _ _ _
      | exact scale_End.mono _ _
      | exact scale_Known.mono _ _
      | exact scale_Length.mono _ _ _
      | exact scale_Tai.mono _ _ _ _
      | exact scale_Utc.mono _ _ _
      | exact LeO.none _
      | refine LeO.ite ?_ ?_
      | refine LeO.bind ?_ (fun _ => ?_)
set_option maxHeartbeats 8000000 in
set_option maxRecDepth 100000 in
theorem epactlaw22_ScaleTells.calls (k : Nat) (A0 : Option Addr) (c0 : Nat) (l0 : List (S45)) (a1 : Int) (a2 : Int) (a3 : Int) (r : Bool) (w : World) (hr0 : Kd.C k45 w A0 l0.length l0) (hc0 : l0.length ≤ c0) (h : epactlaw22_ScaleTells.f k l0 a1 a2 a3 = some r) :
    Calls Try.prog 3 #[.slice A0 l0.length c0, .int .i64 a1, .int .i64 a2, .int .i64 a3] w fun e w' => e = .returned (.bool r) ∧ Below w.heap.size w w' := by
  have HR0 := Aside0.mk hr0
  have HC0 := Aside0.mk hc0
  clear hr0 hc0
  have HB := Aside0.mk (Below.refl w.heap.size w)
  have H : ((epactlaw22_small.f k).bind fun t375 => (if (l0.length : Int) > 300 then (some t375) else ((scale_Utc.f k l0 a1).bind fun bt376 => ((epactref22_Utc.f k l0 a1).bind fun bt379 => ((scale_Tai.f k l0 a2 a3).bind fun bt382 => ((epactref22_Tai.f k l0 a2 a3).bind fun bt384 => ((scale_Length.f k l0 a2).bind fun bt386 => ((epactref22_Length.f k l0 a2).bind fun bt388 => ((scale_End.f k l0).bind fun bt390 => ((epactref22_End.f k l0).bind fun bt392 => (if t375 = true then (if bt376.1 = bt379.1 then (if bt376.2.1 = bt379.2.1 then (if bt376.2.2 = bt379.2.2 then (if bt382.1 = bt384.1 then (if bt382.2 = bt384.2 then (if bt386.1 = bt388.1 then (if bt386.2 = bt388.2 then (if bt390.1 = bt392.1 then (if (bt390.2 == bt392.2) = true then ((scale_Known.f k l0).bind fun t394 => ((epactref22_Known.f k l0).bind fun t395 => (some (t394 == t395)))) else (none)) else (none)) else (none)) else (none)) else (none)) else (none)) else (none)) else (none)) else (none)) else (none)))))))))))) = some r := h
  clear h
  replace H := Option.bind_eq_some_iff.mp H
  obtain ⟨t375, A50, H⟩ := H
  replace H : (if (l0.length : Int) > 300 then (some t375) else ((scale_Utc.f k l0 a1).bind fun bt376 => ((epactref22_Utc.f k l0 a1).bind fun bt379 => ((scale_Tai.f k l0 a2 a3).bind fun bt382 => ((epactref22_Tai.f k l0 a2 a3).bind fun bt384 => ((scale_Length.f k l0 a2).bind fun bt386 => ((epactref22_Length.f k l0 a2).bind fun bt388 => ((scale_End.f k l0).bind fun bt390 => ((epactref22_End.f k l0).bind fun bt392 => (if t375 = true then (if bt376.1 = bt379.1 then (if bt376.2.1 = bt379.2.1 then (if bt376.2.2 = bt379.2.2 then (if bt382.1 = bt384.1 then (if bt382.2 = bt384.2 then (if bt386.1 = bt388.1 then (if bt386.2 = bt388.2 then (if bt390.1 = bt392.1 then (if (bt390.2 == bt392.2) = true then ((scale_Known.f k l0).bind fun t394 => ((epactref22_Known.f k l0).bind fun t395 => (some (t394 == t395)))) else (none)) else (none)) else (none)) else (none)) else (none)) else (none)) else (none)) else (none)) else (none)) else (none))))))))))) = some r := H
  have A5 := Aside0.mk A50
  clear A50
  by_cases c6 : (l0.length : Int) > 300
  · rw [if_pos c6] at H
    have c6b0 : decide (300 < (l0.length : Int)) = true := decide_eq_true c6
    have c6b1 : decide (300 < l0.length) = true := decide_eq_true (by omega)
    clear c6
    obtain rfl := Option.some.inj H
    go_enter Try.func3, Try.ntmps3
    go_wp2_with (first | ((with_reducible refine gate_callee (f := 9) rfl ?_); refine goesL_ (some 28) rfl rfl Try.func9 (by kernel_rfl) rfl #[] rfl (by (try simp only [List.map_toArray, List.map_cons, List.map_nil]); first | done | rfl | (simp only [List.length_drop, List.length_take]; rfl)) ?_; (with_reducible refine (epactlaw22_small.calls k  t375 _ A5.out).mono ?_); rintro e w7 ⟨rfl, hb⟩; refine ⟨_, rfl, ?_⟩; have n0_ := Aside0.mk (below_step (by repeat (first | (with_reducible first | exact HB.out | apply below_alloc | apply pw_below_drewN | apply below_drew1) | exact HB.out)) hb); clear HB; have HB := n0_; clear n0_; (try clear hb); (try clear hb2); (try clear hk); (try clear hi)))
    go_ret
    exact ⟨by first | rfl | (simp [errW_none, errW_some] <;> rfl) | (simp [*, errW_none, errW_some] <;> rfl), by repeat (first | (with_reducible first | exact HB.out | apply below_alloc | apply pw_below_drewN | apply below_drew1) | exact HB.out)⟩
  · rw [if_neg c6] at H
    have c6b0 : decide (300 < (l0.length : Int)) = false := decide_eq_false c6
    have c6b1 : decide (300 < l0.length) = false := decide_eq_false (by omega)
    clear c6
    replace H := Option.bind_eq_some_iff.mp H
    obtain ⟨⟨t376, t377, t378⟩, A80, H⟩ := H
    replace H : ((epactref22_Utc.f k l0 a1).bind fun bt379 => ((scale_Tai.f k l0 a2 a3).bind fun bt382 => ((epactref22_Tai.f k l0 a2 a3).bind fun bt384 => ((scale_Length.f k l0 a2).bind fun bt386 => ((epactref22_Length.f k l0 a2).bind fun bt388 => ((scale_End.f k l0).bind fun bt390 => ((epactref22_End.f k l0).bind fun bt392 => (if t375 = true then (if t376 = bt379.1 then (if t377 = bt379.2.1 then (if t378 = bt379.2.2 then (if bt382.1 = bt384.1 then (if bt382.2 = bt384.2 then (if bt386.1 = bt388.1 then (if bt386.2 = bt388.2 then (if bt390.1 = bt392.1 then (if (bt390.2 == bt392.2) = true then ((scale_Known.f k l0).bind fun t394 => ((epactref22_Known.f k l0).bind fun t395 => (some (t394 == t395)))) else (none)) else (none)) else (none)) else (none)) else (none)) else (none)) else (none)) else (none)) else (none)) else (none))))))))) = some r := H
    have A8 := Aside0.mk A80
    clear A80
    replace H := Option.bind_eq_some_iff.mp H
    obtain ⟨⟨t379, t380, t381⟩, A90, H⟩ := H
    replace H : ((scale_Tai.f k l0 a2 a3).bind fun bt382 => ((epactref22_Tai.f k l0 a2 a3).bind fun bt384 => ((scale_Length.f k l0 a2).bind fun bt386 => ((epactref22_Length.f k l0 a2).bind fun bt388 => ((scale_End.f k l0).bind fun bt390 => ((epactref22_End.f k l0).bind fun bt392 => (if t375 = true then (if t376 = t379 then (if t377 = t380 then (if t378 = t381 then (if bt382.1 = bt384.1 then (if bt382.2 = bt384.2 then (if bt386.1 = bt388.1 then (if bt386.2 = bt388.2 then (if bt390.1 = bt392.1 then (if (bt390.2 == bt392.2) = true then ((scale_Known.f k l0).bind fun t394 => ((epactref22_Known.f k l0).bind fun t395 => (some (t394 == t395)))) else (none)) else (none)) else (none)) else (none)) else (none)) else (none)) else (none)) else (none)) else (none)) else (none)))))))) = some r := H
    have A9 := Aside0.mk A90
    clear A90
    replace H := Option.bind_eq_some_iff.mp H
    obtain ⟨⟨t382, t383⟩, A100, H⟩ := H
    replace H : ((epactref22_Tai.f k l0 a2 a3).bind fun bt384 => ((scale_Length.f k l0 a2).bind fun bt386 => ((epactref22_Length.f k l0 a2).bind fun bt388 => ((scale_End.f k l0).bind fun bt390 => ((epactref22_End.f k l0).bind fun bt392 => (if t375 = true then (if t376 = t379 then (if t377 = t380 then (if t378 = t381 then (if t382 = bt384.1 then (if t383 = bt384.2 then (if bt386.1 = bt388.1 then (if bt386.2 = bt388.2 then (if bt390.1 = bt392.1 then (if (bt390.2 == bt392.2) = true then ((scale_Known.f k l0).bind fun t394 => ((epactref22_Known.f k l0).bind fun t395 => (some (t394 == t395)))) else (none)) else (none)) else (none)) else (none)) else (none)) else (none)) else (none)) else (none)) else (none)) else (none))))))) = some r := H
    have A10 := Aside0.mk A100
    clear A100
    replace H := Option.bind_eq_some_iff.mp H
    obtain ⟨⟨t384, t385⟩, A110, H⟩ := H
    replace H : ((scale_Length.f k l0 a2).bind fun bt386 => ((epactref22_Length.f k l0 a2).bind fun bt388 => ((scale_End.f k l0).bind fun bt390 => ((epactref22_End.f k l0).bind fun bt392 => (if t375 = true then (if t376 = t379 then (if t377 = t380 then (if t378 = t381 then (if t382 = t384 then (if t383 = t385 then (if bt386.1 = bt388.1 then (if bt386.2 = bt388.2 then (if bt390.1 = bt392.1 then (if (bt390.2 == bt392.2) = true then ((scale_Known.f k l0).bind fun t394 => ((epactref22_Known.f k l0).bind fun t395 => (some (t394 == t395)))) else (none)) else (none)) else (none)) else (none)) else (none)) else (none)) else (none)) else (none)) else (none)) else (none)))))) = some r := H
    have A11 := Aside0.mk A110
    clear A110
    replace H := Option.bind_eq_some_iff.mp H
    obtain ⟨⟨t386, t387⟩, A120, H⟩ := H
    replace H : ((epactref22_Length.f k l0 a2).bind fun bt388 => ((scale_End.f k l0).bind fun bt390 => ((epactref22_End.f k l0).bind fun bt392 => (if t375 = true then (if t376 = t379 then (if t377 = t380 then (if t378 = t381 then (if t382 = t384 then (if t383 = t385 then (if t386 = bt388.1 then (if t387 = bt388.2 then (if bt390.1 = bt392.1 then (if (bt390.2 == bt392.2) = true then ((scale_Known.f k l0).bind fun t394 => ((epactref22_Known.f k l0).bind fun t395 => (some (t394 == t395)))) else (none)) else (none)) else (none)) else (none)) else (none)) else (none)) else (none)) else (none)) else (none)) else (none))))) = some r := H
    have A12 := Aside0.mk A120
    clear A120
    replace H := Option.bind_eq_some_iff.mp H
    obtain ⟨⟨t388, t389⟩, A130, H⟩ := H
    replace H : ((scale_End.f k l0).bind fun bt390 => ((epactref22_End.f k l0).bind fun bt392 => (if t375 = true then (if t376 = t379 then (if t377 = t380 then (if t378 = t381 then (if t382 = t384 then (if t383 = t385 then (if t386 = t388 then (if t387 = t389 then (if bt390.1 = bt392.1 then (if (bt390.2 == bt392.2) = true then ((scale_Known.f k l0).bind fun t394 => ((epactref22_Known.f k l0).bind fun t395 => (some (t394 == t395)))) else (none)) else (none)) else (none)) else (none)) else (none)) else (none)) else (none)) else (none)) else (none)) else (none)))) = some r := H
    have A13 := Aside0.mk A130
    clear A130
    replace H := Option.bind_eq_some_iff.mp H
    obtain ⟨⟨t390, t391⟩, A140, H⟩ := H
    replace H : ((epactref22_End.f k l0).bind fun bt392 => (if t375 = true then (if t376 = t379 then (if t377 = t380 then (if t378 = t381 then (if t382 = t384 then (if t383 = t385 then (if t386 = t388 then (if t387 = t389 then (if t390 = bt392.1 then (if (t391 == bt392.2) = true then ((scale_Known.f k l0).bind fun t394 => ((epactref22_Known.f k l0).bind fun t395 => (some (t394 == t395)))) else (none)) else (none)) else (none)) else (none)) else (none)) else (none)) else (none)) else (none)) else (none)) else (none))) = some r := H
    have A14 := Aside0.mk A140
    clear A140
    replace H := Option.bind_eq_some_iff.mp H
    obtain ⟨⟨t392, t393⟩, A150, H⟩ := H
    replace H : (if t375 = true then (if t376 = t379 then (if t377 = t380 then (if t378 = t381 then (if t382 = t384 then (if t383 = t385 then (if t386 = t388 then (if t387 = t389 then (if t390 = t392 then (if (t391 == t393) = true then ((scale_Known.f k l0).bind fun t394 => ((epactref22_Known.f k l0).bind fun t395 => (some (t394 == t395)))) else (none)) else (none)) else (none)) else (none)) else (none)) else (none)) else (none)) else (none)) else (none)) else (none)) = some r := H
    have A15 := Aside0.mk A150
    clear A150
    by_cases c16 : t375 = true
    · subst c16
      have H1 : (if t376 = t379 then (if t377 = t380 then (if t378 = t381 then (if t382 = t384 then (if t383 = t385 then (if t386 = t388 then (if t387 = t389 then (if t390 = t392 then (if (t391 == t393) = true then ((scale_Known.f k l0).bind fun t394 => ((epactref22_Known.f k l0).bind fun t395 => (some (t394 == t395)))) else (none)) else (none)) else (none)) else (none)) else (none)) else (none)) else (none)) else (none)) else (none)) = some r := by rw [if_pos rfl] at H; exact H
      clear H
      have H := H1
      clear H1
      by_cases c17 : t376 = t379
      · rw [if_pos c17] at H
        have c17b0 : (t376 == t379) = true := beq_iff_eq.mpr c17
        have c17b1 : (t376 != t379) = false := bne_eq_false_iff_eq.mpr c17
        clear c17
        by_cases c18 : t377 = t380
        · rw [if_pos c18] at H
          have c18b0 : (t377 == t380) = true := beq_iff_eq.mpr c18
          have c18b1 : (t377 != t380) = false := bne_eq_false_iff_eq.mpr c18
          clear c18
          by_cases c19 : t378 = t381
          · rw [if_pos c19] at H
            have c19b0 : (t378 == t381) = true := beq_iff_eq.mpr c19
            have c19b1 : (t378 != t381) = false := bne_eq_false_iff_eq.mpr c19
            clear c19
            by_cases c20 : t382 = t384
            · rw [if_pos c20] at H
              have c20b0 : (t382 == t384) = true := beq_iff_eq.mpr c20
              have c20b1 : (t382 != t384) = false := bne_eq_false_iff_eq.mpr c20
              clear c20
              by_cases c21 : t383 = t385
              · rw [if_pos c21] at H
                have c21b0 : (t383 == t385) = true := beq_iff_eq.mpr c21
                have c21b1 : (t383 != t385) = false := bne_eq_false_iff_eq.mpr c21
                clear c21
                by_cases c22 : t386 = t388
                · rw [if_pos c22] at H
                  have c22b0 : (t386 == t388) = true := beq_iff_eq.mpr c22
                  have c22b1 : (t386 != t388) = false := bne_eq_false_iff_eq.mpr c22
                  clear c22
                  by_cases c23 : t387 = t389
                  · rw [if_pos c23] at H
                    have c23b0 : (t387 == t389) = true := beq_iff_eq.mpr c23
                    have c23b1 : (t387 != t389) = false := bne_eq_false_iff_eq.mpr c23
                    clear c23
                    by_cases c24 : t390 = t392
                    · rw [if_pos c24] at H
                      have c24b0 : (t390 == t392) = true := beq_iff_eq.mpr c24
                      have c24b1 : (t390 != t392) = false := bne_eq_false_iff_eq.mpr c24
                      clear c24
                      by_cases c25 : (t391 == t393) = true
                      · rw [if_pos c25] at H
                        have c25b0 : (t391 == t393) = true := c25
                        (try (have c25b1 : decide (t391 = t393) = true := by first | (simp; done) | (simp at c25; done) | simpa using c25))
                        (try (have c25b2 : (t391 == t393) = true := by first | (simp; done) | (simp at c25; done) | simpa using c25))
                        clear c25
                        replace H := Option.bind_eq_some_iff.mp H
                        obtain ⟨t394, A260, H⟩ := H
                        replace H : ((epactref22_Known.f k l0).bind fun t395 => (some (t394 == t395))) = some r := H
                        have A26 := Aside0.mk A260
                        clear A260
                        replace H := Option.bind_eq_some_iff.mp H
                        obtain ⟨t395, A270, H⟩ := H
                        replace H : (some (t394 == t395)) = some r := H
                        have A27 := Aside0.mk A270
                        clear A270
                        obtain rfl := Option.some.inj H
                        go_enter Try.func3, Try.ntmps3
                        go_wp2_with (first | ((with_reducible refine gate_callee (f := 9) rfl ?_); refine goesL_ (some 28) rfl rfl Try.func9 (by kernel_rfl) rfl #[] rfl (by (try simp only [List.map_toArray, List.map_cons, List.map_nil]); first | done | rfl | (simp only [List.length_drop, List.length_take]; rfl)) ?_; (with_reducible refine (epactlaw22_small.calls k  true _ A5.out).mono ?_); rintro e w28 ⟨rfl, hb⟩; refine ⟨_, rfl, ?_⟩; have n0_ := Aside0.mk (below_step (by repeat (first | (with_reducible first | exact HB.out | apply below_alloc | apply pw_below_drewN | apply below_drew1) | exact HB.out)) hb); clear HB; have HB := n0_; clear n0_; (try clear hb); (try clear hb2); (try clear hk); (try clear hi)) | ((with_reducible refine gate_callee (f := 10) rfl ?_); refine goesL_ (some 36) rfl rfl Try.func10 (by kernel_rfl) rfl #[.slice A0 l0.length c0, .int .i64 a1] rfl (by (try simp only [List.map_toArray, List.map_cons, List.map_nil]); first | done | rfl | (simp only [List.length_drop, List.length_take]; rfl)) ?_; (with_reducible refine (scale_Utc.calls k _ _ l0 a1 t376 t377 t378 _ ?side1 ?side2 A8.out).mono ?_); (case side1 => repeat (first | exact (Kd.C_below HR0.out HB.out) | (with_reducible refine Kd.C_alloc ?_ _) | (with_reducible refine Kd.C_drewN ?_ _) | (with_reducible refine Kd.C_drew ?_))); (case side2 => exact HC0.out); rintro e w29 ⟨rfl, hb⟩; refine ⟨_, rfl, ?_⟩; have n0_ := Aside0.mk (below_step (by repeat (first | (with_reducible first | exact HB.out | apply below_alloc | apply pw_below_drewN | apply below_drew1) | exact HB.out)) hb); clear HB; have HB := n0_; clear n0_; (try clear hb); (try clear hb2); (try clear hk); (try clear hi)) | ((with_reducible refine gate_callee (f := 11) rfl ?_); refine goesL_ (some 43) rfl rfl Try.func11 (by kernel_rfl) rfl #[.slice A0 l0.length c0, .int .i64 a1] rfl (by (try simp only [List.map_toArray, List.map_cons, List.map_nil]); first | done | rfl | (simp only [List.length_drop, List.length_take]; rfl)) ?_; (with_reducible refine (epactref22_Utc.calls k _ _ l0 a1 t379 t380 t381 _ ?side1 ?side2 A9.out).mono ?_); (case side1 => repeat (first | exact (Kd.C_below HR0.out HB.out) | (with_reducible refine Kd.C_alloc ?_ _) | (with_reducible refine Kd.C_drewN ?_ _) | (with_reducible refine Kd.C_drew ?_))); (case side2 => exact HC0.out); rintro e w30 ⟨rfl, hb⟩; refine ⟨_, rfl, ?_⟩; have n0_ := Aside0.mk (below_step (by repeat (first | (with_reducible first | exact HB.out | apply below_alloc | apply pw_below_drewN | apply below_drew1) | exact HB.out)) hb); clear HB; have HB := n0_; clear n0_; (try clear hb); (try clear hb2); (try clear hk); (try clear hi)) | ((with_reducible refine gate_callee (f := 12) rfl ?_); refine goesL_ (some 51) rfl rfl Try.func12 (by kernel_rfl) rfl #[.slice A0 l0.length c0, .int .i64 a2, .int .i64 a3] rfl (by (try simp only [List.map_toArray, List.map_cons, List.map_nil]); first | done | rfl | (simp only [List.length_drop, List.length_take]; rfl)) ?_; (with_reducible refine (scale_Tai.calls k _ _ l0 a2 a3 t382 t383 _ ?side1 ?side2 A10.out).mono ?_); (case side1 => repeat (first | exact (Kd.C_below HR0.out HB.out) | (with_reducible refine Kd.C_alloc ?_ _) | (with_reducible refine Kd.C_drewN ?_ _) | (with_reducible refine Kd.C_drew ?_))); (case side2 => exact HC0.out); rintro e w31 ⟨rfl, hb⟩; refine ⟨_, rfl, ?_⟩; have n0_ := Aside0.mk (below_step (by repeat (first | (with_reducible first | exact HB.out | apply below_alloc | apply pw_below_drewN | apply below_drew1) | exact HB.out)) hb); clear HB; have HB := n0_; clear n0_; (try clear hb); (try clear hb2); (try clear hk); (try clear hi)) | ((with_reducible refine gate_callee (f := 13) rfl ?_); refine goesL_ (some 58) rfl rfl Try.func13 (by kernel_rfl) rfl #[.slice A0 l0.length c0, .int .i64 a2, .int .i64 a3] rfl (by (try simp only [List.map_toArray, List.map_cons, List.map_nil]); first | done | rfl | (simp only [List.length_drop, List.length_take]; rfl)) ?_; (with_reducible refine (epactref22_Tai.calls k _ _ l0 a2 a3 t384 t385 _ ?side1 ?side2 A11.out).mono ?_); (case side1 => repeat (first | exact (Kd.C_below HR0.out HB.out) | (with_reducible refine Kd.C_alloc ?_ _) | (with_reducible refine Kd.C_drewN ?_ _) | (with_reducible refine Kd.C_drew ?_))); (case side2 => exact HC0.out); rintro e w32 ⟨rfl, hb⟩; refine ⟨_, rfl, ?_⟩; have n0_ := Aside0.mk (below_step (by repeat (first | (with_reducible first | exact HB.out | apply below_alloc | apply pw_below_drewN | apply below_drew1) | exact HB.out)) hb); clear HB; have HB := n0_; clear n0_; (try clear hb); (try clear hb2); (try clear hk); (try clear hi)) | ((with_reducible refine gate_callee (f := 14) rfl ?_); refine goesL_ (some 64) rfl rfl Try.func14 (by kernel_rfl) rfl #[.slice A0 l0.length c0, .int .i64 a2] rfl (by (try simp only [List.map_toArray, List.map_cons, List.map_nil]); first | done | rfl | (simp only [List.length_drop, List.length_take]; rfl)) ?_; (with_reducible refine (scale_Length.calls k _ _ l0 a2 t386 t387 _ ?side1 ?side2 A12.out).mono ?_); (case side1 => repeat (first | exact (Kd.C_below HR0.out HB.out) | (with_reducible refine Kd.C_alloc ?_ _) | (with_reducible refine Kd.C_drewN ?_ _) | (with_reducible refine Kd.C_drew ?_))); (case side2 => exact HC0.out); rintro e w33 ⟨rfl, hb⟩; refine ⟨_, rfl, ?_⟩; have n0_ := Aside0.mk (below_step (by repeat (first | (with_reducible first | exact HB.out | apply below_alloc | apply pw_below_drewN | apply below_drew1) | exact HB.out)) hb); clear HB; have HB := n0_; clear n0_; (try clear hb); (try clear hb2); (try clear hk); (try clear hi)) | ((with_reducible refine gate_callee (f := 15) rfl ?_); refine goesL_ (some 70) rfl rfl Try.func15 (by kernel_rfl) rfl #[.slice A0 l0.length c0, .int .i64 a2] rfl (by (try simp only [List.map_toArray, List.map_cons, List.map_nil]); first | done | rfl | (simp only [List.length_drop, List.length_take]; rfl)) ?_; (with_reducible refine (epactref22_Length.calls k _ _ l0 a2 t388 t389 _ ?side1 ?side2 A13.out).mono ?_); (case side1 => repeat (first | exact (Kd.C_below HR0.out HB.out) | (with_reducible refine Kd.C_alloc ?_ _) | (with_reducible refine Kd.C_drewN ?_ _) | (with_reducible refine Kd.C_drew ?_))); (case side2 => exact HC0.out); rintro e w34 ⟨rfl, hb⟩; refine ⟨_, rfl, ?_⟩; have n0_ := Aside0.mk (below_step (by repeat (first | (with_reducible first | exact HB.out | apply below_alloc | apply pw_below_drewN | apply below_drew1) | exact HB.out)) hb); clear HB; have HB := n0_; clear n0_; (try clear hb); (try clear hb2); (try clear hk); (try clear hi)) | ((with_reducible refine gate_callee (f := 16) rfl ?_); refine goesL_ (some 75) rfl rfl Try.func16 (by kernel_rfl) rfl #[.slice A0 l0.length c0] rfl (by (try simp only [List.map_toArray, List.map_cons, List.map_nil]); first | done | rfl | (simp only [List.length_drop, List.length_take]; rfl)) ?_; (with_reducible refine (scale_End.calls k _ _ l0 t390 t391 _ ?side1 ?side2 A14.out).mono ?_); (case side1 => repeat (first | exact (Kd.C_below HR0.out HB.out) | (with_reducible refine Kd.C_alloc ?_ _) | (with_reducible refine Kd.C_drewN ?_ _) | (with_reducible refine Kd.C_drew ?_))); (case side2 => exact HC0.out); rintro e w35 ⟨rfl, hb⟩; refine ⟨_, rfl, ?_⟩; have n0_ := Aside0.mk (below_step (by repeat (first | (with_reducible first | exact HB.out | apply below_alloc | apply pw_below_drewN | apply below_drew1) | exact HB.out)) hb); clear HB; have HB := n0_; clear n0_; (try clear hb); (try clear hb2); (try clear hk); (try clear hi)) | ((with_reducible refine gate_callee (f := 17) rfl ?_); refine goesL_ (some 80) rfl rfl Try.func17 (by kernel_rfl) rfl #[.slice A0 l0.length c0] rfl (by (try simp only [List.map_toArray, List.map_cons, List.map_nil]); first | done | rfl | (simp only [List.length_drop, List.length_take]; rfl)) ?_; (with_reducible refine (epactref22_End.calls k _ _ l0 t392 t393 _ ?side1 ?side2 A15.out).mono ?_); (case side1 => repeat (first | exact (Kd.C_below HR0.out HB.out) | (with_reducible refine Kd.C_alloc ?_ _) | (with_reducible refine Kd.C_drewN ?_ _) | (with_reducible refine Kd.C_drew ?_))); (case side2 => exact HC0.out); rintro e w36 ⟨rfl, hb⟩; refine ⟨_, rfl, ?_⟩; have n0_ := Aside0.mk (below_step (by repeat (first | (with_reducible first | exact HB.out | apply below_alloc | apply pw_below_drewN | apply below_drew1) | exact HB.out)) hb); clear HB; have HB := n0_; clear n0_; (try clear hb); (try clear hb2); (try clear hk); (try clear hi)) | (go_at_call 18; (with_reducible refine (scale_Known.calls k _ _ l0 t394 _ ?side1 ?side2 A26.out).mono ?_); (case side1 => repeat (first | exact (Kd.C_below HR0.out HB.out) | (with_reducible refine Kd.C_alloc ?_ _) | (with_reducible refine Kd.C_drewN ?_ _) | (with_reducible refine Kd.C_drew ?_))); (case side2 => exact HC0.out); rintro e w37 ⟨rfl, hb⟩; have n0_ := Aside0.mk (below_step (by repeat (first | (with_reducible first | exact HB.out | apply below_alloc | apply pw_below_drewN | apply below_drew1) | exact HB.out)) hb); clear HB; have HB := n0_; clear n0_; (try clear hb); (try clear hb2); (try clear hk); (try clear hi)) | (go_at_call 19; (with_reducible refine (epactref22_Known.calls k _ _ l0 t395 _ ?side1 ?side2 A27.out).mono ?_); (case side1 => repeat (first | exact (Kd.C_below HR0.out HB.out) | (with_reducible refine Kd.C_alloc ?_ _) | (with_reducible refine Kd.C_drewN ?_ _) | (with_reducible refine Kd.C_drew ?_))); (case side2 => exact HC0.out); rintro e w38 ⟨rfl, hb⟩; have n0_ := Aside0.mk (below_step (by repeat (first | (with_reducible first | exact HB.out | apply below_alloc | apply pw_below_drewN | apply below_drew1) | exact HB.out)) hb); clear HB; have HB := n0_; clear n0_; (try clear hb); (try clear hb2); (try clear hk); (try clear hi)))
                        go_ret
                        exact ⟨by first | rfl | (simp [errW_none, errW_some] <;> rfl) | (simp [*, errW_none, errW_some] <;> rfl), by repeat (first | (with_reducible first | exact HB.out | apply below_alloc | apply pw_below_drewN | apply below_drew1) | exact HB.out)⟩
                      · rw [if_neg c25] at H
                        exact absurd H (by simp)
                    · rw [if_neg c24] at H
                      exact absurd H (by simp)
                  · rw [if_neg c23] at H
                    exact absurd H (by simp)
                · rw [if_neg c22] at H
                  exact absurd H (by simp)
              · rw [if_neg c21] at H
                exact absurd H (by simp)
            · rw [if_neg c20] at H
              exact absurd H (by simp)
          · rw [if_neg c19] at H
            exact absurd H (by simp)
        · rw [if_neg c18] at H
          exact absurd H (by simp)
      · rw [if_neg c17] at H
        exact absurd H (by simp)
    · replace c16 := Bool.eq_false_iff.mpr c16
      subst c16
      have H1 : (none) = some r := by rw [if_neg (show ¬ (false = true) by decide)] at H; exact H
      clear H
      have H := H1
      clear H1
      exact absurd H (by simp)

/-! ### epactlaw22_ScaleBack: function 4 -/
def epactlaw22_ScaleBack.j0 : Nat → List (S45) → Int → Int → Bool → Option (Bool)
  | 0, _, _, _, _ => none
  | k + 1, x0, x2, x3, x9 => (scale_Tai.f k x0 x2 x3).bind fun bt402 => (if bt402.2 = 0 then ((scale_Utc.f k x0 bt402.1).bind fun bt404 => (if x9 = true then (if bt404.2.2 = 0 then (if bt404.1 = x2 then (some (bt404.2.1 == x3)) else (none)) else (none)) else (none))) else (if x9 = true then (some (bt402.1 == 0)) else (none)))
def epactlaw22_ScaleBack.f (k : Nat) (l0 : List (S45)) (a1 : Int) (a2 : Int) (a3 : Int) : Option (Bool) := (epactlaw22_small.f k).bind fun t396 => (if (l0.length : Int) > 300 then (some t396) else ((scale_Utc.f k l0 a1).bind fun bt397 => (if bt397.2.2 = 0 then ((scale_Tai.f k l0 bt397.1 bt397.2.1).bind fun bt400 => (if bt400.2 = 0 then (if bt400.1 = a1 then (epactlaw22_ScaleBack.j0 k l0 a2 a3 t396) else (none)) else (none))) else (if bt397.1 = 0 then (if bt397.2.1 = 0 then (epactlaw22_ScaleBack.j0 k l0 a2 a3 t396) else (none)) else (none)))))
theorem epactlaw22_ScaleBack.mono_l : ∀ k, (∀ y0 y1 y2 y3, LeO (epactlaw22_ScaleBack.j0 k y0 y1 y2 y3) (epactlaw22_ScaleBack.j0 (k + 1) y0 y1 y2 y3))
  | 0 => fun _ _ _ _ r h => by simp [epactlaw22_ScaleBack.j0] at h
  | k + 1 => by
    have ih0 := epactlaw22_ScaleBack.mono_l k
    · intro y0 y1 y2 y3
      unfold epactlaw22_ScaleBack.j0
      repeat' first
      | (with_reducible exact ih0 _ _ _ _)
      | (with_reducible exact epactlaw22_small.mono _)
      | (with_reducible exact scale_Tai.mono _ _ _ _)
      | (with_reducible exact scale_Utc.mono _ _ _)
      | (with_reducible exact LeO.refl _)
      | (with_reducible exact LeO.none _)
      | (with_reducible refine LeO.ite ?_ ?_)
      | (with_reducible refine LeO.bind ?_ (fun _ => ?_))
      | exact ih0 _ _ _ _
      | exact epactlaw22_small.mono _
      | exact scale_Tai.mono _ _ _ _
      | exact scale_Utc.mono _ _ _
      | exact LeO.none _
      | refine LeO.ite ?_ ?_
      | refine LeO.bind ?_ (fun _ => ?_)
theorem epactlaw22_ScaleBack.mono : ∀ a0 a1 a2 a3 k, LeO (epactlaw22_ScaleBack.f k a0 a1 a2 a3) (epactlaw22_ScaleBack.f (k + 1) a0 a1 a2 a3) := by
  intro a0 a1 a2 a3 k
  have ih0 := epactlaw22_ScaleBack.mono_l k
  unfold epactlaw22_ScaleBack.f
  repeat' first
      | (with_reducible exact ih0 _ _ _ _)
      | (with_reducible exact epactlaw22_small.mono _)
      | (with_reducible exact scale_Tai.mono _ _ _ _)
      | (with_reducible exact scale_Utc.mono _ _ _)
      | (with_reducible exact LeO.refl _)
      | (with_reducible exact LeO.none _)
      | (with_reducible refine LeO.ite ?_ ?_)
      | (with_reducible refine LeO.bind ?_ (fun _ => ?_))
      | exact ih0 _ _ _ _
      | exact epactlaw22_small.mono _
      | exact scale_Tai.mono _ _ _ _
      | exact scale_Utc.mono _ _ _
      | exact LeO.none _
      | refine LeO.ite ?_ ?_
      | refine LeO.bind ?_ (fun _ => ?_)
set_option maxHeartbeats 8000000 in
set_option maxRecDepth 100000 in
theorem epactlaw22_ScaleBack.calls (k : Nat) (A0 : Option Addr) (c0 : Nat) (l0 : List (S45)) (a1 : Int) (a2 : Int) (a3 : Int) (r : Bool) (w : World) (hr0 : Kd.C k45 w A0 l0.length l0) (hc0 : l0.length ≤ c0) (h : epactlaw22_ScaleBack.f k l0 a1 a2 a3 = some r) :
    Calls Try.prog 4 #[.slice A0 l0.length c0, .int .i64 a1, .int .i64 a2, .int .i64 a3] w fun e w' => e = .returned (.bool r) ∧ Below w.heap.size w w' := by
  have HR0 := Aside0.mk hr0
  have HC0 := Aside0.mk hc0
  clear hr0 hc0
  have HB := Aside0.mk (Below.refl w.heap.size w)
  have H : ((epactlaw22_small.f k).bind fun t396 => (if (l0.length : Int) > 300 then (some t396) else ((scale_Utc.f k l0 a1).bind fun bt397 => (if bt397.2.2 = 0 then ((scale_Tai.f k l0 bt397.1 bt397.2.1).bind fun bt400 => (if bt400.2 = 0 then (if bt400.1 = a1 then (epactlaw22_ScaleBack.j0 k l0 a2 a3 t396) else (none)) else (none))) else (if bt397.1 = 0 then (if bt397.2.1 = 0 then (epactlaw22_ScaleBack.j0 k l0 a2 a3 t396) else (none)) else (none)))))) = some r := h
  clear h
  replace H := Option.bind_eq_some_iff.mp H
  obtain ⟨t396, A50, H⟩ := H
  replace H : (if (l0.length : Int) > 300 then (some t396) else ((scale_Utc.f k l0 a1).bind fun bt397 => (if bt397.2.2 = 0 then ((scale_Tai.f k l0 bt397.1 bt397.2.1).bind fun bt400 => (if bt400.2 = 0 then (if bt400.1 = a1 then (epactlaw22_ScaleBack.j0 k l0 a2 a3 t396) else (none)) else (none))) else (if bt397.1 = 0 then (if bt397.2.1 = 0 then (epactlaw22_ScaleBack.j0 k l0 a2 a3 t396) else (none)) else (none))))) = some r := H
  have A5 := Aside0.mk A50
  clear A50
  by_cases c6 : (l0.length : Int) > 300
  · rw [if_pos c6] at H
    have c6b0 : decide (300 < (l0.length : Int)) = true := decide_eq_true c6
    have c6b1 : decide (300 < l0.length) = true := decide_eq_true (by omega)
    clear c6
    obtain rfl := Option.some.inj H
    go_enter Try.func4, Try.ntmps4
    go_wp2_with (first | ((with_reducible refine gate_callee (f := 9) rfl ?_); refine goesL_ (some 20) rfl rfl Try.func9 (by kernel_rfl) rfl #[] rfl (by (try simp only [List.map_toArray, List.map_cons, List.map_nil]); first | done | rfl | (simp only [List.length_drop, List.length_take]; rfl)) ?_; (with_reducible refine (epactlaw22_small.calls k  t396 _ A5.out).mono ?_); rintro e w7 ⟨rfl, hb⟩; refine ⟨_, rfl, ?_⟩; have n0_ := Aside0.mk (below_step (by repeat (first | (with_reducible first | exact HB.out | apply below_alloc | apply pw_below_drewN | apply below_drew1) | exact HB.out)) hb); clear HB; have HB := n0_; clear n0_; (try clear hb); (try clear hb2); (try clear hk); (try clear hi)))
    go_ret
    exact ⟨by first | rfl | (simp [errW_none, errW_some] <;> rfl) | (simp [*, errW_none, errW_some] <;> rfl), by repeat (first | (with_reducible first | exact HB.out | apply below_alloc | apply pw_below_drewN | apply below_drew1) | exact HB.out)⟩
  · rw [if_neg c6] at H
    have c6b0 : decide (300 < (l0.length : Int)) = false := decide_eq_false c6
    have c6b1 : decide (300 < l0.length) = false := decide_eq_false (by omega)
    clear c6
    replace H := Option.bind_eq_some_iff.mp H
    obtain ⟨⟨t397, t398, t399⟩, A80, H⟩ := H
    replace H : (if t399 = 0 then ((scale_Tai.f k l0 t397 t398).bind fun bt400 => (if bt400.2 = 0 then (if bt400.1 = a1 then (epactlaw22_ScaleBack.j0 k l0 a2 a3 t396) else (none)) else (none))) else (if t397 = 0 then (if t398 = 0 then (epactlaw22_ScaleBack.j0 k l0 a2 a3 t396) else (none)) else (none))) = some r := H
    have A8 := Aside0.mk A80
    clear A80
    have HC9 := Aside0.mk H
    clear H
    go_enter Try.func4, Try.ntmps4
    go_upto_if 33 with (first | ((with_reducible refine gate_callee (f := 9) rfl ?_); refine goesL_ (some 20) rfl rfl Try.func9 (by kernel_rfl) rfl #[] rfl (by (try simp only [List.map_toArray, List.map_cons, List.map_nil]); first | done | rfl | (simp only [List.length_drop, List.length_take]; rfl)) ?_; (with_reducible refine (epactlaw22_small.calls k  t396 _ A5.out).mono ?_); rintro e w10 ⟨rfl, hb⟩; refine ⟨_, rfl, ?_⟩; have n0_ := Aside0.mk (below_step (by repeat (first | (with_reducible first | exact HB.out | apply below_alloc | apply pw_below_drewN | apply below_drew1) | exact HB.out)) hb); clear HB; have HB := n0_; clear n0_; (try clear hb); (try clear hb2); (try clear hk); (try clear hi)) | ((with_reducible refine gate_callee (f := 10) rfl ?_); refine goesL_ (some 28) rfl rfl Try.func10 (by kernel_rfl) rfl #[.slice A0 l0.length c0, .int .i64 a1] rfl (by (try simp only [List.map_toArray, List.map_cons, List.map_nil]); first | done | rfl | (simp only [List.length_drop, List.length_take]; rfl)) ?_; (with_reducible refine (scale_Utc.calls k _ _ l0 a1 t397 t398 t399 _ ?side1 ?side2 A8.out).mono ?_); (case side1 => repeat (first | exact (Kd.C_below HR0.out HB.out) | (with_reducible refine Kd.C_alloc ?_ _) | (with_reducible refine Kd.C_drewN ?_ _) | (with_reducible refine Kd.C_drew ?_))); (case side2 => exact HC0.out); rintro e w11 ⟨rfl, hb⟩; refine ⟨_, rfl, ?_⟩; have n0_ := Aside0.mk (below_step (by repeat (first | (with_reducible first | exact HB.out | apply below_alloc | apply pw_below_drewN | apply below_drew1) | exact HB.out)) hb); clear HB; have HB := n0_; clear n0_; (try clear hb); (try clear hb2); (try clear hk); (try clear hi)))
    (try simp only [Act.put, List.setIfInBounds_toArray, List.set_cons_zero, List.set_cons_succ])
    go_cut [] (fun wc => ∃ (kq : Nat), Aside0 (epactlaw22_ScaleBack.j0 kq l0 a2 a3 t396 = some r) ∧ Aside0 (kq ≤ k) ∧ Aside0 (Below w.heap.size w wc))
    case first =>
      have H := HC9.out
      clear HC9
      by_cases c12 : t399 = 0
      · rw [if_pos c12] at H
        have c12b0 : (t399 == 0) = true := beq_iff_eq.mpr c12
        have c12b1 : (t399 != 0) = false := bne_eq_false_iff_eq.mpr c12
        clear c12
        (first | rw [c12b0] | (simp only [i64_w, i32_w]; rw [c12b0]) | skip)
        replace H := Option.bind_eq_some_iff.mp H
        obtain ⟨⟨t400, t401⟩, A130, H⟩ := H
        replace H : (if t401 = 0 then (if t400 = a1 then (epactlaw22_ScaleBack.j0 k l0 a2 a3 t396) else (none)) else (none)) = some r := H
        have A13 := Aside0.mk A130
        clear A130
        by_cases c14 : t401 = 0
        · rw [if_pos c14] at H
          have c14b0 : (t401 == 0) = true := beq_iff_eq.mpr c14
          have c14b1 : (t401 != 0) = false := bne_eq_false_iff_eq.mpr c14
          clear c14
          by_cases c15 : t400 = a1
          · rw [if_pos c15] at H
            have c15b0 : (t400 == a1) = true := beq_iff_eq.mpr c15
            have c15b1 : (t400 != a1) = false := bne_eq_false_iff_eq.mpr c15
            clear c15
            have H' := Aside0.mk H
            clear H
            go_wp2_with (first | ((with_reducible refine gate_callee (f := 12) rfl ?_); refine goesL_ (some 38) rfl rfl Try.func12 (by kernel_rfl) rfl #[.slice A0 l0.length c0, .int .i64 t397, .int .i64 t398] rfl (by (try simp only [List.map_toArray, List.map_cons, List.map_nil]); first | done | rfl | (simp only [List.length_drop, List.length_take]; rfl)) ?_; (with_reducible refine (scale_Tai.calls k _ _ l0 t397 t398 t400 t401 _ ?side1 ?side2 A13.out).mono ?_); (case side1 => repeat (first | exact (Kd.C_below HR0.out HB.out) | (with_reducible refine Kd.C_alloc ?_ _) | (with_reducible refine Kd.C_drewN ?_ _) | (with_reducible refine Kd.C_drew ?_))); (case side2 => exact HC0.out); rintro e w16 ⟨rfl, hb⟩; refine ⟨_, rfl, ?_⟩; have n0_ := Aside0.mk (below_step (by repeat (first | (with_reducible first | exact HB.out | apply below_alloc | apply pw_below_drewN | apply below_drew1) | exact HB.out)) hb); clear HB; have HB := n0_; clear n0_; (try clear hb); (try clear hb2); (try clear hk); (try clear hi)))
            go_meet
            case rel => exact ⟨_, H', ⟨by first | omega | exact Nat.le_refl _⟩, ⟨by repeat (first | (with_reducible first | exact HB.out | apply below_alloc | apply pw_below_drewN | apply below_drew1) | exact HB.out)⟩⟩
          · rw [if_neg c15] at H
            exact absurd H (by simp)
        · rw [if_neg c14] at H
          exact absurd H (by simp)
      · rw [if_neg c12] at H
        have c12b0 : (t399 == 0) = false := beq_eq_false_iff_ne.mpr c12
        have c12b1 : (t399 != 0) = true := bne_iff_ne.mpr c12
        (first | rw [c12b0] | (simp only [i64_w, i32_w]; rw [c12b0]) | skip)
        by_cases c17 : t397 = 0
        · rw [if_pos c17] at H
          have c17b0 : (t397 == 0) = true := beq_iff_eq.mpr c17
          have c17b1 : (t397 != 0) = false := bne_eq_false_iff_eq.mpr c17
          clear c17
          by_cases c18 : t398 = 0
          · rw [if_pos c18] at H
            have c18b0 : (t398 == 0) = true := beq_iff_eq.mpr c18
            have c18b1 : (t398 != 0) = false := bne_eq_false_iff_eq.mpr c18
            clear c18
            have H' := Aside0.mk H
            clear H
            go_wp2
            go_meet
            case rel => exact ⟨_, H', ⟨by first | omega | exact Nat.le_refl _⟩, ⟨by repeat (first | (with_reducible first | exact HB.out | apply below_alloc | apply pw_below_drewN | apply below_drew1) | exact HB.out)⟩⟩
          · rw [if_neg c18] at H
            exact absurd H (by simp)
        · rw [if_neg c17] at H
          exact absurd H (by simp)
    case rest =>
      clear HC9
      try clear c1
      try clear p2
      try clear c4
      try clear c6
      try clear c6b0
      try clear c6b1
      try clear c9
      try clear c10
      try clear c12
      try clear c12b0
      try clear c12b1
      try clear c14
      try clear c14b0
      try clear c14b1
      try clear c15
      try clear c15b0
      try clear c15b1
      try clear c17
      try clear c17b0
      try clear c17b1
      try clear c18
      try clear c18b0
      try clear c18b1
      obtain ⟨kq, HA, HJ8, HB⟩ := hcut
      cases kq with
      | zero => exact absurd HA.out (by simp [epactlaw22_ScaleBack.j0])
      | succ kj8 =>
        have H := HA.out
        clear HA
        simp only [epactlaw22_ScaleBack.j0] at H
        replace H := Option.bind_eq_some_iff.mp H
        obtain ⟨⟨t402, t403⟩, A190, H⟩ := H
        replace H : (if t403 = 0 then ((scale_Utc.f kj8 l0 t402).bind fun bt404 => (if t396 = true then (if bt404.2.2 = 0 then (if bt404.1 = a2 then (some (bt404.2.1 == a3)) else (none)) else (none)) else (none))) else (if t396 = true then (some (t402 == 0)) else (none))) = some r := H
        have A19 := Aside0.mk A190
        clear A190
        by_cases c20 : t403 = 0
        · rw [if_pos c20] at H
          have c20b0 : (t403 == 0) = true := beq_iff_eq.mpr c20
          have c20b1 : (t403 != 0) = false := bne_eq_false_iff_eq.mpr c20
          clear c20
          replace H := Option.bind_eq_some_iff.mp H
          obtain ⟨⟨t404, t405, t406⟩, A210, H⟩ := H
          replace H : (if t396 = true then (if t406 = 0 then (if t404 = a2 then (some (t405 == a3)) else (none)) else (none)) else (none)) = some r := H
          have A21 := Aside0.mk A210
          clear A210
          by_cases c22 : t396 = true
          · subst c22
            have H1 : (if t406 = 0 then (if t404 = a2 then (some (t405 == a3)) else (none)) else (none)) = some r := by rw [if_pos rfl] at H; exact H
            clear H
            have H := H1
            clear H1
            by_cases c23 : t406 = 0
            · rw [if_pos c23] at H
              have c23b0 : (t406 == 0) = true := beq_iff_eq.mpr c23
              have c23b1 : (t406 != 0) = false := bne_eq_false_iff_eq.mpr c23
              clear c23
              by_cases c24 : t404 = a2
              · rw [if_pos c24] at H
                have c24b0 : (t404 == a2) = true := beq_iff_eq.mpr c24
                have c24b1 : (t404 != a2) = false := bne_eq_false_iff_eq.mpr c24
                clear c24
                obtain rfl := Option.some.inj H
                go_wp2_with (first | ((with_reducible refine gate_callee (f := 12) rfl ?_); refine goesL_ (some 58) rfl rfl Try.func12 (by kernel_rfl) rfl #[.slice A0 l0.length c0, .int .i64 a2, .int .i64 a3] rfl (by (try simp only [List.map_toArray, List.map_cons, List.map_nil]); first | done | rfl | (simp only [List.length_drop, List.length_take]; rfl)) ?_; (with_reducible refine (scale_Tai.calls kj8 _ _ l0 a2 a3 t402 t403 _ ?side1 ?side2 A19.out).mono ?_); (case side1 => repeat (first | exact (Kd.C_below HR0.out HB.out) | (with_reducible refine Kd.C_alloc ?_ _) | (with_reducible refine Kd.C_drewN ?_ _) | (with_reducible refine Kd.C_drew ?_))); (case side2 => exact HC0.out); rintro e w25 ⟨rfl, hb⟩; refine ⟨_, rfl, ?_⟩; have n0_ := Aside0.mk (below_step (by repeat (first | (with_reducible first | exact HB.out | apply below_alloc | apply pw_below_drewN | apply below_drew1) | exact HB.out)) hb); clear HB; have HB := n0_; clear n0_; (try clear hb); (try clear hb2); (try clear hk); (try clear hi)) | ((with_reducible refine gate_callee (f := 10) rfl ?_); refine goesL_ (some 71) rfl rfl Try.func10 (by kernel_rfl) rfl #[.slice A0 l0.length c0, .int .i64 t402] rfl (by (try simp only [List.map_toArray, List.map_cons, List.map_nil]); first | done | rfl | (simp only [List.length_drop, List.length_take]; rfl)) ?_; (with_reducible refine (scale_Utc.calls kj8 _ _ l0 t402 t404 t405 t406 _ ?side1 ?side2 A21.out).mono ?_); (case side1 => repeat (first | exact (Kd.C_below HR0.out HB.out) | (with_reducible refine Kd.C_alloc ?_ _) | (with_reducible refine Kd.C_drewN ?_ _) | (with_reducible refine Kd.C_drew ?_))); (case side2 => exact HC0.out); rintro e w26 ⟨rfl, hb⟩; refine ⟨_, rfl, ?_⟩; have n0_ := Aside0.mk (below_step (by repeat (first | (with_reducible first | exact HB.out | apply below_alloc | apply pw_below_drewN | apply below_drew1) | exact HB.out)) hb); clear HB; have HB := n0_; clear n0_; (try clear hb); (try clear hb2); (try clear hk); (try clear hi)))
                go_ret
                exact ⟨by first | rfl | (simp [errW_none, errW_some] <;> rfl) | (simp [*, errW_none, errW_some] <;> rfl), by repeat (first | (with_reducible first | exact HB.out | apply below_alloc | apply pw_below_drewN | apply below_drew1) | exact HB.out)⟩
              · rw [if_neg c24] at H
                exact absurd H (by simp)
            · rw [if_neg c23] at H
              exact absurd H (by simp)
          · replace c22 := Bool.eq_false_iff.mpr c22
            subst c22
            have H1 : (none) = some r := by rw [if_neg (show ¬ (false = true) by decide)] at H; exact H
            clear H
            have H := H1
            clear H1
            exact absurd H (by simp)
        · rw [if_neg c20] at H
          have c20b0 : (t403 == 0) = false := beq_eq_false_iff_ne.mpr c20
          have c20b1 : (t403 != 0) = true := bne_iff_ne.mpr c20
          by_cases c27 : t396 = true
          · subst c27
            have H1 : (some (t402 == 0)) = some r := by rw [if_pos rfl] at H; exact H
            clear H
            have H := H1
            clear H1
            obtain rfl := Option.some.inj H
            go_wp2_with (first | ((with_reducible refine gate_callee (f := 12) rfl ?_); refine goesL_ (some 58) rfl rfl Try.func12 (by kernel_rfl) rfl #[.slice A0 l0.length c0, .int .i64 a2, .int .i64 a3] rfl (by (try simp only [List.map_toArray, List.map_cons, List.map_nil]); first | done | rfl | (simp only [List.length_drop, List.length_take]; rfl)) ?_; (with_reducible refine (scale_Tai.calls kj8 _ _ l0 a2 a3 t402 t403 _ ?side1 ?side2 A19.out).mono ?_); (case side1 => repeat (first | exact (Kd.C_below HR0.out HB.out) | (with_reducible refine Kd.C_alloc ?_ _) | (with_reducible refine Kd.C_drewN ?_ _) | (with_reducible refine Kd.C_drew ?_))); (case side2 => exact HC0.out); rintro e w28 ⟨rfl, hb⟩; refine ⟨_, rfl, ?_⟩; have n0_ := Aside0.mk (below_step (by repeat (first | (with_reducible first | exact HB.out | apply below_alloc | apply pw_below_drewN | apply below_drew1) | exact HB.out)) hb); clear HB; have HB := n0_; clear n0_; (try clear hb); (try clear hb2); (try clear hk); (try clear hi)))
            go_ret
            exact ⟨by first | rfl | (simp [errW_none, errW_some] <;> rfl) | (simp [*, errW_none, errW_some] <;> rfl), by repeat (first | (with_reducible first | exact HB.out | apply below_alloc | apply pw_below_drewN | apply below_drew1) | exact HB.out)⟩
          · replace c27 := Bool.eq_false_iff.mpr c27
            subst c27
            have H1 : (none) = some r := by rw [if_neg (show ¬ (false = true) by decide)] at H; exact H
            clear H
            have H := H1
            clear H1
            exact absurd H (by simp)

end Go.Proofs.Ythecldgopjaogaa.PAll
