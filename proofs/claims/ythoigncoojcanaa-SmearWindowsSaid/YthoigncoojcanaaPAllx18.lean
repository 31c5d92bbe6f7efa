-- Written for this claim by wip/tools of this repo (after the kit's print; own contracts laid in).
import Derived.Test.YthoigncoojcanaaPAllx0
import Derived.Test.YthoigncoojcanaaPAllx5
import Derived.Test.YthoigncoojcanaaPAllx10
import Derived.Test.YthoigncoojcanaaPAllx17
namespace Go.Proofs.Ythoigncoojcanaa.PAll
open Go.RowKit Go.Proofs.YthoigncoojcanaaW.PrintWords Go.Proofs.YthoigncoojcanaaW.PrintLast Go.Proofs.YthoigncoojcanaaW.PrintMore
attribute [local go_sem] max2_int min2_int max_two min_two max_three min_three max_four min_four   -- for this text's walks alone
set_option linter.unusedVariables false
set_option linter.unusedSimpArgs false

/-! ### epactlaw25_SmearWindows: function 9 -/
mutual
def epactlaw25_SmearWindows.j0 : Nat → Int → Bool → Bool → List (S49) → Bool → Int → Option (Bool)
  | 0, _, _, _, _, _, _ => none
  | k + 1, x1, x5, x26, x437000, x437001, x437002 => if x26 = true then (some x5) else ((record_Records.f k x437000 x437001 x437002).bind fun bt439 => (if bt439.2 = true then ((smear_Window.f k bt439.1 x1).bind fun bt443 => (epactlaw25_SmearWindows.l0 k x1 x5 bt443.1 bt443.2.1 bt443.2.2 false 0 x437000 x437001 x437002)) else (some x5)))
def epactlaw25_SmearWindows.l0 : Nat → Int → Bool → Int → Int → Bool → Bool → Int → List (S49) → Bool → Int → Option (Bool)
  | 0, _, _, _, _, _, _, _, _, _, _ => none
  | k + 1, x1, x5, x9, x10, x11, x12, x13, x437000, x437001, x437002 => if x13 < (x437000.length : Int) then (if 0 ≤ x13 then ((leap_Total.f k x437000 x437001 x437002 ((rd_T49 x437000 x13).f0)).bind fun t447 => (if x1 < (wrap64 ((wrap64 ((wrap64 (86400 * (wrap64 (((rd_T49 x437000 x13).f0) - 730)))) + t447)) + 43200)) then (epactlaw25_SmearWindows.j2 k x1 x5 x9 x10 x11 x12 x13 ((rd_T49 x437000 x13).f0) (wrap64 ((wrap64 ((wrap64 (86400 * (wrap64 (((rd_T49 x437000 x13).f0) - 730)))) + t447)) + 43200)) true x437000 x437001 x437002) else ((leap_Length.f x437000 x437001 x437002 ((rd_T49 x437000 x13).f0)).bind fun t448 => (epactlaw25_SmearWindows.j2 k x1 x5 x9 x10 x11 x12 x13 ((rd_T49 x437000 x13).f0) (wrap64 ((wrap64 ((wrap64 (86400 * (wrap64 (((rd_T49 x437000 x13).f0) - 730)))) + t447)) + 43200)) (decide ((wrap64 (x1 - (wrap64 ((wrap64 ((wrap64 (86400 * (wrap64 (((rd_T49 x437000 x13).f0) - 730)))) + t447)) + 43200)))) ≥ t448)) x437000 x437001 x437002)))) else (none)) else (if x5 = true then (if (x12 == x11) = true then (if x11 = true then (some true) else (if x9 = 0 then (some (x10 == 0)) else (none))) else (none)) else (none))
def epactlaw25_SmearWindows.j2 : Nat → Int → Bool → Int → Int → Bool → Bool → Int → Int → Int → Bool → List (S49) → Bool → Int → Option (Bool)
  | 0, _, _, _, _, _, _, _, _, _, _, _, _, _ => none
  | k + 1, x1, x5, x9, x10, x11, x12, x13, x14, x15, x75, x437000, x437001, x437002 => if x75 = true then (epactlaw25_SmearWindows.l0 k x1 x5 x9 x10 x11 x12 (wrap64 (x13 + 1)) x437000 x437001 x437002) else (if x9 = x15 then ((leap_Length.f x437000 x437001 x437002 x14).bind fun t449 => (if x10 = t449 then (epactlaw25_SmearWindows.l0 k x1 x5 x9 x10 x11 true (wrap64 (x13 + 1)) x437000 x437001 x437002) else (none))) else (none))
end
def epactlaw25_SmearWindows.f (k : Nat) (l0_0 : List (S49)) (a0_1 : Bool) (a0_2 : Int) (a1 : Int) : Option (Bool) := (epactlaw25_small.f k).bind fun t437 => ((epactlaw09_Few.f l0_0 a0_1 a0_2).bind fun t438 => (if t438 = true then (epactlaw25_SmearWindows.j0 k a1 t437 (decide ((l0_0.length : Int) > 100)) l0_0 a0_1 a0_2) else (epactlaw25_SmearWindows.j0 k a1 t437 true l0_0 a0_1 a0_2)))
theorem epactlaw25_SmearWindows.mono_l : ∀ k, (∀ y0 y1 y2 y3 y4 y5, LeO (epactlaw25_SmearWindows.j0 k y0 y1 y2 y3 y4 y5) (epactlaw25_SmearWindows.j0 (k + 1) y0 y1 y2 y3 y4 y5)) ∧ (∀ y0 y1 y2 y3 y4 y5 y6 y7 y8 y9, LeO (epactlaw25_SmearWindows.l0 k y0 y1 y2 y3 y4 y5 y6 y7 y8 y9) (epactlaw25_SmearWindows.l0 (k + 1) y0 y1 y2 y3 y4 y5 y6 y7 y8 y9)) ∧ (∀ y0 y1 y2 y3 y4 y5 y6 y7 y8 y9 y10 y11 y12, LeO (epactlaw25_SmearWindows.j2 k y0 y1 y2 y3 y4 y5 y6 y7 y8 y9 y10 y11 y12) (epactlaw25_SmearWindows.j2 (k + 1) y0 y1 y2 y3 y4 y5 y6 y7 y8 y9 y10 y11 y12))
  | 0 => ⟨fun _ _ _ _ _ _ r h => by simp [epactlaw25_SmearWindows.j0] at h, fun _ _ _ _ _ _ _ _ _ _ r h => by simp [epactlaw25_SmearWindows.l0] at h, fun _ _ _ _ _ _ _ _ _ _ _ _ _ r h => by simp [epactlaw25_SmearWindows.j2] at h⟩
  | k + 1 => by
    obtain ⟨ih0, ih1, ih2⟩ := epactlaw25_SmearWindows.mono_l k
    refine ⟨?_, ?_, ?_⟩
    · intro y0 y1 y2 y3 y4 y5
      unfold epactlaw25_SmearWindows.j0
      repeat' first
      | (with_reducible exact ih0 _ _ _ _ _ _)
      | (with_reducible exact ih1 _ _ _ _ _ _ _ _ _ _)
      | (with_reducible exact ih2 _ _ _ _ _ _ _ _ _ _ _ _ _)
      | (with_reducible exact epactlaw25_small.mono _)
      | (with_reducible exact leap_Total.mono _ _ _ _ _)
      | (with_reducible exact record_Records.mono _ _ _ _)
      | (with_reducible exact smear_Window.mono _ _ _)
      | (with_reducible exact LeO.refl _)
      | (with_reducible exact LeO.none _)
      | (with_reducible refine LeO.ite ?_ ?_)
      | (with_reducible refine LeO.bind ?_ (fun _ => ?_))
      | exact ih0 _ _ _ _ _ _
      | exact ih1 _ _ _ _ _ _ _ _ _ _
      | exact ih2 _ _ _ _ _ _ _ _ _ _ _ _ _
      | exact epactlaw25_small.mono _
      | exact leap_Total.mono _ _ _ _ _
      | exact record_Records.mono _ _ _ _
      | exact smear_Window.mono _ _ _
      | exact LeO.none _
      | refine LeO.ite ?_ ?_
      | refine LeO.bind ?_ (fun _ => ?_)
    · intro y0 y1 y2 y3 y4 y5 y6 y7 y8 y9
      unfold epactlaw25_SmearWindows.l0
      repeat' first
      | (with_reducible exact ih0 _ _ _ _ _ _)
      | (with_reducible exact ih1 _ _ _ _ _ _ _ _ _ _)
      | (with_reducible exact ih2 _ _ _ _ _ _ _ _ _ _ _ _ _)
      | (with_reducible exact epactlaw25_small.mono _)
      | (with_reducible exact leap_Total.mono _ _ _ _ _)
      | (with_reducible exact record_Records.mono _ _ _ _)
      | (with_reducible exact smear_Window.mono _ _ _)
      | (with_reducible exact LeO.refl _)
      | (with_reducible exact LeO.none _)
      | (with_reducible refine LeO.ite ?_ ?_)
      | (with_reducible refine LeO.bind ?_ (fun _ => ?_))
      | exact ih0 _ _ _ _ _ _
      | exact ih1 _ _ _ _ _ _ _ _ _ _
      | exact ih2 _ _ _ _ _ _ _ _ _ _ _ _ _
      | exact epactlaw25_small.mono _
      | exact leap_Total.mono _ _ _ _ _
      | exact record_Records.mono _ _ _ _
      | exact smear_Window.mono _ _ _
      | exact LeO.none _
      | refine LeO.ite ?_ ?_
      | refine LeO.bind ?_ (fun _ => ?_)
    · intro y0 y1 y2 y3 y4 y5 y6 y7 y8 y9 y10 y11 y12
      unfold epactlaw25_SmearWindows.j2
      repeat' first
      | (with_reducible exact ih0 _ _ _ _ _ _)
      | (with_reducible exact ih1 _ _ _ _ _ _ _ _ _ _)
      | (with_reducible exact ih2 _ _ _ _ _ _ _ _ _ _ _ _ _)
      | (with_reducible exact epactlaw25_small.mono _)
      | (with_reducible exact leap_Total.mono _ _ _ _ _)
      | (with_reducible exact record_Records.mono _ _ _ _)
      | (with_reducible exact smear_Window.mono _ _ _)
      | (with_reducible exact LeO.refl _)
      | (with_reducible exact LeO.none _)
      | (with_reducible refine LeO.ite ?_ ?_)
      | (with_reducible refine LeO.bind ?_ (fun _ => ?_))
      | exact ih0 _ _ _ _ _ _
      | exact ih1 _ _ _ _ _ _ _ _ _ _
      | exact ih2 _ _ _ _ _ _ _ _ _ _ _ _ _
      | exact epactlaw25_small.mono _
      | exact leap_Total.mono _ _ _ _ _
      | exact record_Records.mono _ _ _ _
      | exact smear_Window.mono _ _ _
      | exact LeO.none _
      | refine LeO.ite ?_ ?_
      | refine LeO.bind ?_ (fun _ => ?_)
theorem epactlaw25_SmearWindows.mono : ∀ a0 a1 a2 a3 k, LeO (epactlaw25_SmearWindows.f k a0 a1 a2 a3) (epactlaw25_SmearWindows.f (k + 1) a0 a1 a2 a3) := by
  intro a0 a1 a2 a3 k
  obtain ⟨ih0, ih1, ih2⟩ := epactlaw25_SmearWindows.mono_l k
  unfold epactlaw25_SmearWindows.f
  repeat' first
      | (with_reducible exact ih0 _ _ _ _ _ _)
      | (with_reducible exact ih1 _ _ _ _ _ _ _ _ _ _)
      | (with_reducible exact ih2 _ _ _ _ _ _ _ _ _ _ _ _ _)
      | (with_reducible exact epactlaw25_small.mono _)
      | (with_reducible exact leap_Total.mono _ _ _ _ _)
      | (with_reducible exact record_Records.mono _ _ _ _)
      | (with_reducible exact smear_Window.mono _ _ _)
      | (with_reducible exact LeO.refl _)
      | (with_reducible exact LeO.none _)
      | (with_reducible refine LeO.ite ?_ ?_)
      | (with_reducible refine LeO.bind ?_ (fun _ => ?_))
      | exact ih0 _ _ _ _ _ _
      | exact ih1 _ _ _ _ _ _ _ _ _ _
      | exact ih2 _ _ _ _ _ _ _ _ _ _ _ _ _
      | exact epactlaw25_small.mono _
      | exact leap_Total.mono _ _ _ _ _
      | exact record_Records.mono _ _ _ _
      | exact smear_Window.mono _ _ _
      | exact LeO.none _
      | refine LeO.ite ?_ ?_
      | refine LeO.bind ?_ (fun _ => ?_)
set_option maxHeartbeats 8000000 in
set_option maxRecDepth 100000 in
theorem epactlaw25_SmearWindows.calls (k : Nat) (A0_0 : Option Addr) (c0_0 : Nat) (l0_0 : List (S49)) (a0_1 : Bool) (a0_2 : Int) (a1 : Int) (r : Bool) (w : World) (hr0_0 : Kd.C k49 w A0_0 l0_0.length l0_0) (hc0_0 : l0_0.length ≤ c0_0) (h : epactlaw25_SmearWindows.f k l0_0 a0_1 a0_2 a1 = some r) :
    Calls Try.prog 9 #[.agg #[.slice A0_0 l0_0.length c0_0, .bool a0_1, .int .i64 a0_2], .int .i64 a1] w fun e w' => e = .returned (.bool r) ∧ Below w.heap.size w w' := by
  have hu44 := Try.underlying44
  have HR0_0 := Aside0.mk hr0_0
  have HC0_0 := Aside0.mk hc0_0
  clear hr0_0 hc0_0
  have HB := Aside0.mk (Below.refl w.heap.size w)
  have H : ((epactlaw25_small.f k).bind fun t437 => ((epactlaw09_Few.f l0_0 a0_1 a0_2).bind fun t438 => (if t438 = true then (epactlaw25_SmearWindows.j0 k a1 t437 (decide ((l0_0.length : Int) > 100)) l0_0 a0_1 a0_2) else (epactlaw25_SmearWindows.j0 k a1 t437 true l0_0 a0_1 a0_2)))) = some r := h
  clear h
  replace H := Option.bind_eq_some_iff.mp H
  obtain ⟨t437, A30, H⟩ := H
  replace H : ((epactlaw09_Few.f l0_0 a0_1 a0_2).bind fun t438 => (if t438 = true then (epactlaw25_SmearWindows.j0 k a1 t437 (decide ((l0_0.length : Int) > 100)) l0_0 a0_1 a0_2) else (epactlaw25_SmearWindows.j0 k a1 t437 true l0_0 a0_1 a0_2))) = some r := H
  have A3 := Aside0.mk A30
  clear A30
  replace H := Option.bind_eq_some_iff.mp H
  obtain ⟨t438, A40, H⟩ := H
  replace H : (if t438 = true then (epactlaw25_SmearWindows.j0 k a1 t437 (decide ((l0_0.length : Int) > 100)) l0_0 a0_1 a0_2) else (epactlaw25_SmearWindows.j0 k a1 t437 true l0_0 a0_1 a0_2)) = some r := H
  have A4 := Aside0.mk A40
  clear A40
  have HC5 := Aside0.mk H
  clear H
  go_enter Try.func9, Try.ntmps9
  go_upto_region 3 with (first | ((with_reducible refine gate_dst (N := 2) rfl ?_); (try (refine gate_guard (by rfl) ?_; dsimp only)); refine box_event ?hg (N := 2) ?hd (cs := #[.slice A0_0 l0_0.length c0_0, .bool a0_1, .int .i64 a0_2]) (t := 44) ?hr ?_; (case hd => rfl); (case hg => rfl); (case hr => first | (go_simp; done) | (go_simp; rfl)); intro gb436 hg w6 hbox hb; have n0_ := Aside0.mk (below_step (by repeat (first | (with_reducible first | exact HB.out | apply below_alloc | apply pw_below_drewN | apply below_drew1) | exact HB.out)) hb); have n1_ := Aside0.mk (hbox); have n2_ := Aside0.mk ((by rw [hg]; exact (below_size (by repeat (first | (with_reducible first | exact HB.out | apply below_alloc | apply pw_below_drewN | apply below_drew1) | exact HB.out))) : w.heap.size ≤ gb436)); have n3_ := Aside0.mk ((by rw [hg]; exact (below_size (by repeat (first | (with_reducible first | exact HB.out | apply below_alloc | apply pw_below_drewN | apply below_drew1) | exact HB.out))) : w.heap.size ≤ gb436)); clear HB; have HB := n0_; have BK436 := n1_; have GW436 := n2_; have GE436 := n3_; clear n0_ n1_ n2_ n3_; clear hb hbox hg) | ((with_reducible refine gate_callee (f := 10) rfl ?_); refine goesL_ (some 16) rfl rfl Try.func10 (by kernel_rfl) rfl #[] rfl (by (try simp only [List.map_toArray, List.map_cons, List.map_nil]); first | done | rfl | (simp only [List.length_drop, List.length_take]; rfl)) ?_; (with_reducible refine (epactlaw25_small.calls k  t437 _ A3.out).mono ?_); rintro e w7 ⟨rfl, hb⟩; refine ⟨_, rfl, ?_⟩; have n0_ := Aside0.mk (blk_below (g := gb436) (o := .cells #[.slice A0_0 l0_0.length c0_0, .bool a0_1, .int .i64 a0_2] 44 (0, 0)) (by (with_reducible repeat (first | refine blk_drewN ?_ _ | refine blk_drew ?_ | refine blk_alloc ?_ _)); exact BK436.out) hb); have n1_ := Aside0.mk (below_step (by repeat (first | (with_reducible first | exact HB.out | apply below_alloc | apply pw_below_drewN | apply below_drew1 | refine below_set ?_ GE436.out) | exact HB.out)) hb); clear BK436; clear HB; have BK436 := n0_; have HB := n1_; clear n0_ n1_; (try clear hb); (try clear hb2); (try clear hk); (try clear hi); have hcz8_0 : w7.cell? ⟨gb436, 0, none⟩ = some (.slice A0_0 l0_0.length c0_0) := (blk_cell BK436.out 0).trans rfl; have hcz8_1 : w7.cell? ⟨gb436, 1, none⟩ = some (.bool a0_1) := (blk_cell BK436.out 1).trans rfl; have hcz8_2 : w7.cell? ⟨gb436, 2, none⟩ = some (.int .i64 a0_2) := (blk_cell BK436.out 2).trans rfl; have hfz8_0 := blk_frozen BK436.out 0; have hfz8_1 := blk_frozen BK436.out 1; have hfz8_2 := blk_frozen BK436.out 2) | ((with_reducible refine gate_callee (f := 25) rfl ?_); refine goesL_ (some 18) rfl rfl Try.func25 (by kernel_rfl) rfl #[.agg #[.slice A0_0 l0_0.length c0_0, .bool a0_1, .int .i64 a0_2]] rfl (by (try simp only [List.map_toArray, List.map_cons, List.map_nil]); first | done | rfl | (simp only [List.length_drop, List.length_take]; rfl)) ?_; (with_reducible refine (epactlaw09_Few.calls _ _ l0_0 a0_1 a0_2 t438 _ ?side1 ?side2 A4.out).mono ?_); (case side1 => repeat (first | exact (Kd.C_below HR0_0.out HB.out) | (with_reducible refine Kd.C_alloc ?_ _) | (with_reducible refine Kd.C_drewN ?_ _) | (with_reducible refine Kd.C_drew ?_))); (case side2 => exact HC0_0.out); rintro e w9 ⟨rfl, hb⟩; refine ⟨_, rfl, ?_⟩; have n0_ := Aside0.mk (blk_below (g := gb436) (o := .cells #[.slice A0_0 l0_0.length c0_0, .bool a0_1, .int .i64 a0_2] 44 (0, 0)) (by (with_reducible repeat (first | refine blk_drewN ?_ _ | refine blk_drew ?_ | refine blk_alloc ?_ _)); exact BK436.out) hb); have n1_ := Aside0.mk (below_step (by repeat (first | (with_reducible first | exact HB.out | apply below_alloc | apply pw_below_drewN | apply below_drew1 | refine below_set ?_ GE436.out) | exact HB.out)) hb); clear BK436; clear HB; have BK436 := n0_; have HB := n1_; clear n0_ n1_; (try clear hb); (try clear hb2); (try clear hk); (try clear hi)))
  (try simp only [Act.put, List.setIfInBounds_toArray, List.set_cons_zero, List.set_cons_succ])
  go_cut [26] (fun v26 wc => ∃ (kq : Nat) (x26_4 : Bool), v26 = .bool x26_4 ∧ Aside0 (epactlaw25_SmearWindows.j0 kq a1 t437 x26_4 l0_0 a0_1 a0_2 = some r) ∧ Aside0 (kq ≤ k) ∧ Aside0 (wc.heap[gb436]? = some (.cells #[(.slice A0_0 l0_0.length c0_0), .bool a0_1, .int .i64 a0_2] 44 (0, 0))) ∧ Aside0 (Below w.heap.size w wc))
  case first =>
    have H := HC5.out
    clear HC5
    by_cases c10 : t438 = true
    · subst c10
      have H1 : (epactlaw25_SmearWindows.j0 k a1 t437 (decide ((l0_0.length : Int) > 100)) l0_0 a0_1 a0_2) = some r := by rw [if_pos rfl] at H; exact H
      clear H
      have H := H1
      clear H1
      have H' := Aside0.mk H
      clear H
      have hcz11_0 : w9.cell? ⟨gb436, 0, none⟩ = some (.slice A0_0 l0_0.length c0_0) := (blk_cell BK436.out 0).trans rfl
      have hcz11_1 : w9.cell? ⟨gb436, 1, none⟩ = some (.bool a0_1) := (blk_cell BK436.out 1).trans rfl
      have hcz11_2 : w9.cell? ⟨gb436, 2, none⟩ = some (.int .i64 a0_2) := (blk_cell BK436.out 2).trans rfl
      have hfz11_0 := blk_frozen BK436.out 0
      have hfz11_1 := blk_frozen BK436.out 1
      have hfz11_2 := blk_frozen BK436.out 2
      go_wp2
      go_meet
      case rel => exact ⟨_, (decide ((l0_0.length : Int) > 100)), (by first | rfl | (simp; done) | (simp [*]; done)), H', ⟨by first | omega | exact Nat.le_refl _⟩, ⟨by (with_reducible repeat (first | refine blk_drewN ?_ _ | refine blk_drew ?_ | refine blk_alloc ?_ _)); exact BK436.out⟩, ⟨by repeat (first | (with_reducible first | exact HB.out | apply below_alloc | apply pw_below_drewN | apply below_drew1 | refine below_set ?_ GE436.out) | exact HB.out)⟩⟩
    · replace c10 := Bool.eq_false_iff.mpr c10
      subst c10
      have H1 : (epactlaw25_SmearWindows.j0 k a1 t437 true l0_0 a0_1 a0_2) = some r := by rw [if_neg (show ¬ (false = true) by decide)] at H; exact H
      clear H
      have H := H1
      clear H1
      have H' := Aside0.mk H
      clear H
      go_wp2
      go_meet
      case rel => exact ⟨_, (true), (by first | rfl | (simp; done) | (simp [*]; done)), H', ⟨by first | omega | exact Nat.le_refl _⟩, ⟨by (with_reducible repeat (first | refine blk_drewN ?_ _ | refine blk_drew ?_ | refine blk_alloc ?_ _)); exact BK436.out⟩, ⟨by repeat (first | (with_reducible first | exact HB.out | apply below_alloc | apply pw_below_drewN | apply below_drew1 | refine below_set ?_ GE436.out) | exact HB.out)⟩⟩
  case rest =>
    clear HC5
    try clear c1
    try clear c2
    try clear p2
    try clear c9
    try clear c10
    try clear hcz11_0
    try clear hcz11_1
    try clear hcz11_2
    try clear hcz8_0
    try clear hcz8_1
    try clear hcz8_2
    try clear hfz11_0
    try clear hfz11_1
    try clear hfz11_2
    try clear hfz8_0
    try clear hfz8_1
    try clear hfz8_2
    obtain ⟨kq, x26_4, rfl, HA, HJ4, BK436, HB⟩ := hcut
    cases kq with
    | zero => exact absurd HA.out (by simp [epactlaw25_SmearWindows.j0])
    | succ kj4 =>
      have H := HA.out
      clear HA
      simp only [epactlaw25_SmearWindows.j0] at H
      by_cases c12 : x26_4 = true
      · subst c12
        have H1 : (some t437) = some r := by rw [if_pos rfl] at H; exact H
        clear H
        have H := H1
        clear H1
        obtain rfl := Option.some.inj H
        go_wp2
        go_ret
        exact ⟨by first | rfl | (simp [errW_none, errW_some] <;> rfl) | (simp [*, errW_none, errW_some] <;> rfl), by repeat (first | (with_reducible first | exact HB.out | apply below_alloc | apply pw_below_drewN | apply below_drew1 | refine below_set ?_ GE436.out) | exact HB.out)⟩
      · replace c12 := Bool.eq_false_iff.mpr c12
        subst c12
        have H1 : ((record_Records.f kj4 l0_0 a0_1 a0_2).bind fun bt439 => (if bt439.2 = true then ((smear_Window.f kj4 bt439.1 a1).bind fun bt443 => (epactlaw25_SmearWindows.l0 kj4 a1 t437 bt443.1 bt443.2.1 bt443.2.2 false 0 l0_0 a0_1 a0_2)) else (some t437))) = some r := by rw [if_neg (show ¬ (false = true) by decide)] at H; exact H
        clear H
        have H := H1
        clear H1
        replace H := Option.bind_eq_some_iff.mp H
        obtain ⟨⟨t439, t442⟩, A130, H⟩ := H
        replace H : (if t442 = true then ((smear_Window.f kj4 t439 a1).bind fun bt443 => (epactlaw25_SmearWindows.l0 kj4 a1 t437 bt443.1 bt443.2.1 bt443.2.2 false 0 l0_0 a0_1 a0_2)) else (some t437)) = some r := H
        have A13 := Aside0.mk A130
        clear A130
        by_cases c14 : t442 = true
        · subst c14
          have H1 : ((smear_Window.f kj4 t439 a1).bind fun bt443 => (epactlaw25_SmearWindows.l0 kj4 a1 t437 bt443.1 bt443.2.1 bt443.2.2 false 0 l0_0 a0_1 a0_2)) = some r := by rw [if_pos rfl] at H; exact H
          clear H
          have H := H1
          clear H1
          replace H := Option.bind_eq_some_iff.mp H
          obtain ⟨⟨t443, t444, t445⟩, A150, H⟩ := H
          replace H : (epactlaw25_SmearWindows.l0 kj4 a1 t437 t443 t444 t445 false 0 l0_0 a0_1 a0_2) = some r := H
          have A15 := Aside0.mk A150
          clear A150
          have H' := Aside0.mk H
          clear H
          have hcz16_0 : wc.cell? ⟨gb436, 0, none⟩ = some (.slice A0_0 l0_0.length c0_0) := (blk_cell BK436.out 0).trans rfl
          have hcz16_1 : wc.cell? ⟨gb436, 1, none⟩ = some (.bool a0_1) := (blk_cell BK436.out 1).trans rfl
          have hcz16_2 : wc.cell? ⟨gb436, 2, none⟩ = some (.int .i64 a0_2) := (blk_cell BK436.out 2).trans rfl
          have hfz16_0 := blk_frozen BK436.out 0
          have hfz16_1 := blk_frozen BK436.out 1
          have hfz16_2 := blk_frozen BK436.out 2
          go_wp2_with (first | ((with_reducible refine gate_callee (f := 26) rfl ?_); refine goesL_ (some 30) rfl rfl Try.func26 (by kernel_rfl) rfl #[.agg #[.slice A0_0 l0_0.length c0_0, .bool a0_1, .int .i64 a0_2]] rfl (by (try simp only [List.map_toArray, List.map_cons, List.map_nil]); first | done | rfl | (simp only [List.length_drop, List.length_take]; rfl)) ?_; (with_reducible refine (record_Records.calls kj4 _ _ l0_0 a0_1 a0_2 t439 true _ ?side1 ?side2 A13.out).mono ?_); (case side1 => repeat (first | exact (Kd.C_below HR0_0.out HB.out) | (with_reducible refine Kd.C_alloc ?_ _) | (with_reducible refine Kd.C_drewN ?_ _) | (with_reducible refine Kd.C_drew ?_))); (case side2 => exact HC0_0.out); rintro e w17 ⟨v440, rfl, ho0, hb⟩; refine ⟨_, rfl, ?_⟩; have n0_ := Aside0.mk (Kd.R_lower ho0 (below_size (by repeat (first | (with_reducible first | exact HB.out | apply below_alloc | apply pw_below_drewN | apply below_drew1 | refine below_set ?_ GE436.out) | exact HB.out)))); have n1_ := Aside0.mk (blk_below (g := gb436) (o := .cells #[.slice A0_0 l0_0.length c0_0, .bool a0_1, .int .i64 a0_2] 44 (0, 0)) (by (with_reducible repeat (first | refine blk_drewN ?_ _ | refine blk_drew ?_ | refine blk_alloc ?_ _)); exact BK436.out) hb); have n2_ := Aside0.mk (below_step (by repeat (first | (with_reducible first | exact HB.out | apply below_alloc | apply pw_below_drewN | apply below_drew1 | refine below_set ?_ GE436.out) | exact HB.out)) hb); clear BK436; clear HB; have HO441 := n0_; have BK436 := n1_; have HB := n2_; clear n0_ n1_ n2_; (try clear hb); (try clear hb2); (try clear hk); (try clear hi); (try clear ho0); obtain ⟨Ao18, co18, eo18⟩ := Kd.R_slice HO441.out; subst eo18) | ((with_reducible refine gate_callee (f := 11) rfl ?_); refine goesL_ (some 39) rfl rfl Try.func11 (by kernel_rfl) rfl #[.slice Ao18 t439.length co18, .int .i64 a1] rfl (by (try simp only [List.map_toArray, List.map_cons, List.map_nil]); first | done | rfl | (simp only [List.length_drop, List.length_take]; rfl)) ?_; (with_reducible refine (smear_Window.calls kj4 _ _ t439 a1 t443 t444 t445 _ ?side1 ?side2 A15.out).mono ?_); (case side1 => repeat (first | exact (Kd.R_reads' HO441.out).2.2 | (with_reducible refine Kd.C_alloc ?_ _) | (with_reducible refine Kd.C_drewN ?_ _) | (with_reducible refine Kd.C_drew ?_))); (case side2 => exact (Kd.R_reads' HO441.out).2.1); rintro e w19 ⟨rfl, hb⟩; refine ⟨_, rfl, ?_⟩; have n0_ := Aside0.mk (Kd.R_below (by (with_reducible repeat (first | apply Kd.R_alloc | apply Kd.R_drewN | apply Kd.R_drew)); exact HO441.out) hb); have n1_ := Aside0.mk (blk_below (g := gb436) (o := .cells #[.slice A0_0 l0_0.length c0_0, .bool a0_1, .int .i64 a0_2] 44 (0, 0)) (by (with_reducible repeat (first | refine blk_drewN ?_ _ | refine blk_drew ?_ | refine blk_alloc ?_ _)); exact BK436.out) hb); have n2_ := Aside0.mk (below_step (by repeat (first | (with_reducible first | exact HB.out | apply below_alloc | apply pw_below_drewN | apply below_drew1 | refine below_set ?_ GE436.out) | exact HB.out)) hb); clear HO441; clear BK436; clear HB; have HO441 := n0_; have BK436 := n1_; have HB := n2_; clear n0_ n1_ n2_; (try clear hb); (try clear hb2); (try clear hk); (try clear hi)))
          go_loopg [12, 13] kj4 (fun kq v12 v13 w' => ∃ (x12_2 : Bool) (x13_2 : Int), v12 = .bool x12_2 ∧ v13 = .int .i64 x13_2 ∧ Aside0 (epactlaw25_SmearWindows.l0 kq a1 t437 t443 t444 t445 x12_2 x13_2 l0_0 a0_1 a0_2 = some r) ∧ Aside0 (kq ≤ kj4) ∧ Aside0 (w'.heap[gb436]? = some (.cells #[(.slice A0_0 l0_0.length c0_0), .bool a0_1, .int .i64 a0_2] 44 (0, 0))) ∧ Aside0 (Below w.heap.size w w'))
          case atStart => exact ⟨(false), (0), (by first | rfl | (simp; done) | (simp [*]; done)), (by first | rfl | (simp; done) | (simp [*]; done)), H', ⟨Nat.le_refl _⟩, ⟨by (with_reducible repeat (first | refine blk_drewN ?_ _ | refine blk_drew ?_ | refine blk_alloc ?_ _)); exact BK436.out⟩, ⟨by repeat (first | (with_reducible first | exact HB.out | apply below_alloc | apply pw_below_drewN | apply below_drew1 | refine below_set ?_ GE436.out) | exact HB.out)⟩⟩
          case round =>
            clear H'
            try clear c1
            try clear c2
            try clear p2
            try clear c9
            try clear c10
            try clear c11
            try clear c12
            try clear c14
            try clear hcz11_0
            try clear hcz11_1
            try clear hcz11_2
            try clear hcz16_0
            try clear hcz16_1
            try clear hcz16_2
            try clear hcz8_0
            try clear hcz8_1
            try clear hcz8_2
            try clear hfz11_0
            try clear hfz11_1
            try clear hfz11_2
            try clear hfz16_0
            try clear hfz16_1
            try clear hfz16_2
            try clear hfz8_0
            try clear hfz8_1
            try clear hfz8_2
            try clear p2
            obtain ⟨x12_2, x13_2, rfl, rfl, HA, HK2, BK436, HB⟩ := hrel
            cases gk with
            | zero => exact absurd HA.out (by simp [epactlaw25_SmearWindows.l0])
            | succ k2 =>
              have H := HA.out
              clear HA
              simp only [epactlaw25_SmearWindows.l0] at H
              by_cases c20 : x13_2 < (l0_0.length : Int)
              · rw [if_pos c20] at H
                have c20b0 : decide (x13_2 < (l0_0.length : Int)) = true := decide_eq_true c20
                clear c20
                by_cases c21 : 0 ≤ x13_2
                · rw [if_pos c21] at H
                  have c21b0 : decide (0 ≤ x13_2) = true := decide_eq_true c21
                  clear c21
                  replace H := Option.bind_eq_some_iff.mp H
                  obtain ⟨t447, A220, H⟩ := H
                  replace H : (if a1 < (wrap64 ((wrap64 ((wrap64 (86400 * (wrap64 (((rd_T49 l0_0 x13_2).f0) - 730)))) + t447)) + 43200)) then (epactlaw25_SmearWindows.j2 k2 a1 t437 t443 t444 t445 x12_2 x13_2 ((rd_T49 l0_0 x13_2).f0) (wrap64 ((wrap64 ((wrap64 (86400 * (wrap64 (((rd_T49 l0_0 x13_2).f0) - 730)))) + t447)) + 43200)) true l0_0 a0_1 a0_2) else ((leap_Length.f l0_0 a0_1 a0_2 ((rd_T49 l0_0 x13_2).f0)).bind fun t448 => (epactlaw25_SmearWindows.j2 k2 a1 t437 t443 t444 t445 x12_2 x13_2 ((rd_T49 l0_0 x13_2).f0) (wrap64 ((wrap64 ((wrap64 (86400 * (wrap64 (((rd_T49 l0_0 x13_2).f0) - 730)))) + t447)) + 43200)) (decide ((wrap64 (a1 - (wrap64 ((wrap64 ((wrap64 (86400 * (wrap64 (((rd_T49 l0_0 x13_2).f0) - 730)))) + t447)) + 43200)))) ≥ t448)) l0_0 a0_1 a0_2))) = some r := H
                  have A22 := Aside0.mk A220
                  clear A220
                  have HC23 := Aside0.mk H
                  clear H
                  have hcz24_0 : wr.cell? ⟨gb436, 0, none⟩ = some (.slice A0_0 l0_0.length c0_0) := (blk_cell BK436.out 0).trans rfl
                  have hcz24_1 : wr.cell? ⟨gb436, 1, none⟩ = some (.bool a0_1) := (blk_cell BK436.out 1).trans rfl
                  have hcz24_2 : wr.cell? ⟨gb436, 2, none⟩ = some (.int .i64 a0_2) := (blk_cell BK436.out 2).trans rfl
                  have hfz24_0 := blk_frozen BK436.out 0
                  have hfz24_1 := blk_frozen BK436.out 1
                  have hfz24_2 := blk_frozen BK436.out 2
                  have p446 : 0 ≤ (x13_2 : Int) := of_decide_eq_true (by first | (with_reducible assumption) | assumption)
                  have q446 : x13_2 < (l0_0.length : Int) := of_decide_eq_true (by first | (with_reducible assumption) | assumption)
                  obtain ⟨ad446, e446, hx446_0, hx446_1, hx446_2⟩ := at_T49 HR0_0.out x13_2 p446 q446
                  cases e446
                  replace hx446_0 := (HB.out.cell (World.block_lt_of_cell? w _ hx446_0)).trans hx446_0
                  replace hx446_1 := (HB.out.cell (World.block_lt_of_cell? w _ hx446_1)).trans hx446_1
                  replace hx446_2 := (HB.out.cell (World.block_lt_of_cell? w _ hx446_2)).trans hx446_2
                  replace p446 := eq_true p446
                  replace q446 := eq_true q446
                  go_upto_region 15 with (first | ((with_reducible refine gate_callee (f := 27) rfl ?_); refine goesL_ (some 61) rfl rfl Try.func27 (by kernel_rfl) rfl #[.agg #[.slice (some ad446) l0_0.length c0_0, .bool a0_1, .int .i64 a0_2], .int .i64 ((rd_T49 l0_0 x13_2).f0)] rfl (by (try simp only [List.map_toArray, List.map_cons, List.map_nil]); first | done | rfl | (simp only [List.length_drop, List.length_take]; rfl)) ?_; (with_reducible refine (leap_Total.calls k2 _ _ l0_0 a0_1 a0_2 ((rd_T49 l0_0 x13_2).f0) t447 _ ?side1 ?side2 A22.out).mono ?_); (case side1 => repeat (first | exact (Kd.C_below HR0_0.out HB.out) | (with_reducible refine Kd.C_alloc ?_ _) | (with_reducible refine Kd.C_drewN ?_ _) | (with_reducible refine Kd.C_drew ?_))); (case side2 => exact HC0_0.out); rintro e w25 ⟨rfl, hb⟩; refine ⟨_, rfl, ?_⟩; have n0_ := Aside0.mk (blk_below (g := gb436) (o := .cells #[.slice (some ad446) l0_0.length c0_0, .bool a0_1, .int .i64 a0_2] 44 (0, 0)) (by (with_reducible repeat (first | refine blk_drewN ?_ _ | refine blk_drew ?_ | refine blk_alloc ?_ _)); exact BK436.out) hb); have n1_ := Aside0.mk (below_step (by repeat (first | (with_reducible first | exact HB.out | apply below_alloc | apply pw_below_drewN | apply below_drew1 | refine below_set ?_ GE436.out) | exact HB.out)) hb); clear BK436; clear HB; have BK436 := n0_; have HB := n1_; clear n0_ n1_; (try clear hb); (try clear hb2); (try clear hk); (try clear hi)))
                  (try simp only [Act.put, List.setIfInBounds_toArray, List.set_cons_zero, List.set_cons_succ])
                  go_cut [75] (fun v75 wc => ∃ (kq : Nat) (x75_22 : Bool), v75 = .bool x75_22 ∧ Aside0 (epactlaw25_SmearWindows.j2 kq a1 t437 t443 t444 t445 x12_2 x13_2 ((rd_T49 l0_0 x13_2).f0) (wrap64 ((wrap64 ((wrap64 (86400 * (wrap64 (((rd_T49 l0_0 x13_2).f0) - 730)))) + t447)) + 43200)) x75_22 l0_0 a0_1 a0_2 = some r) ∧ Aside0 (kq ≤ k2) ∧ Aside0 (wc.heap[gb436]? = some (.cells #[(.slice (some ad446) l0_0.length c0_0), .bool a0_1, .int .i64 a0_2] 44 (0, 0))) ∧ Aside0 (Below w.heap.size w wc))
                  case first =>
                    have H := HC23.out
                    clear HC23
                    by_cases c26 : a1 < (wrap64 ((wrap64 ((wrap64 (86400 * (wrap64 (((rd_T49 l0_0 x13_2).f0) - 730)))) + t447)) + 43200))
                    · rw [if_pos c26] at H
                      have c26b0 : decide (a1 < (wrap64 ((wrap64 ((wrap64 (86400 * (wrap64 (((rd_T49 l0_0 x13_2).f0) - 730)))) + t447)) + 43200))) = true := decide_eq_true c26
                      clear c26
                      (first | rw [c26b0] | (simp only [i64_w, i32_w]; rw [c26b0]) | skip)
                      have H' := Aside0.mk H
                      clear H
                      go_wp2
                      go_meet
                      case rel => exact ⟨_, (true), (by first | rfl | (simp; done) | (simp [*]; done)), H', ⟨by have := HJ4.out; have := HK2.out; first | omega | exact Nat.le_refl _⟩, ⟨by (with_reducible repeat (first | refine blk_drewN ?_ _ | refine blk_drew ?_ | refine blk_alloc ?_ _)); exact BK436.out⟩, ⟨by repeat (first | (with_reducible first | exact HB.out | apply below_alloc | apply pw_below_drewN | apply below_drew1 | refine below_set ?_ GE436.out) | exact HB.out)⟩⟩
                    · rw [if_neg c26] at H
                      have c26b0 : decide (a1 < (wrap64 ((wrap64 ((wrap64 (86400 * (wrap64 (((rd_T49 l0_0 x13_2).f0) - 730)))) + t447)) + 43200))) = false := decide_eq_false c26
                      clear c26
                      (first | rw [c26b0] | (simp only [i64_w, i32_w]; rw [c26b0]) | skip)
                      replace H := Option.bind_eq_some_iff.mp H
                      obtain ⟨t448, A270, H⟩ := H
                      replace H : (epactlaw25_SmearWindows.j2 k2 a1 t437 t443 t444 t445 x12_2 x13_2 ((rd_T49 l0_0 x13_2).f0) (wrap64 ((wrap64 ((wrap64 (86400 * (wrap64 (((rd_T49 l0_0 x13_2).f0) - 730)))) + t447)) + 43200)) (decide ((wrap64 (a1 - (wrap64 ((wrap64 ((wrap64 (86400 * (wrap64 (((rd_T49 l0_0 x13_2).f0) - 730)))) + t447)) + 43200)))) ≥ t448)) l0_0 a0_1 a0_2) = some r := H
                      have A27 := Aside0.mk A270
                      clear A270
                      have H' := Aside0.mk H
                      clear H
                      have hcz28_0 : w25.cell? ⟨gb436, 0, none⟩ = some (.slice (some ad446) l0_0.length c0_0) := (blk_cell BK436.out 0).trans rfl
                      have hcz28_1 : w25.cell? ⟨gb436, 1, none⟩ = some (.bool a0_1) := (blk_cell BK436.out 1).trans rfl
                      have hcz28_2 : w25.cell? ⟨gb436, 2, none⟩ = some (.int .i64 a0_2) := (blk_cell BK436.out 2).trans rfl
                      have hfz28_0 := blk_frozen BK436.out 0
                      have hfz28_1 := blk_frozen BK436.out 1
                      have hfz28_2 := blk_frozen BK436.out 2
                      go_wp2_with (first | (go_at_call 28; (with_reducible refine (leap_Length.calls _ _ l0_0 a0_1 a0_2 ((rd_T49 l0_0 x13_2).f0) t448 _ ?side1 ?side2 A27.out).mono ?_); (case side1 => repeat (first | exact (Kd.C_below HR0_0.out HB.out) | (with_reducible refine Kd.C_alloc ?_ _) | (with_reducible refine Kd.C_drewN ?_ _) | (with_reducible refine Kd.C_drew ?_))); (case side2 => exact HC0_0.out); rintro e w29 ⟨rfl, hb⟩; have n0_ := Aside0.mk (blk_below (g := gb436) (o := .cells #[.slice (some ad446) l0_0.length c0_0, .bool a0_1, .int .i64 a0_2] 44 (0, 0)) (by (with_reducible repeat (first | refine blk_drewN ?_ _ | refine blk_drew ?_ | refine blk_alloc ?_ _)); exact BK436.out) hb); have n1_ := Aside0.mk (below_step (by repeat (first | (with_reducible first | exact HB.out | apply below_alloc | apply pw_below_drewN | apply below_drew1 | refine below_set ?_ GE436.out) | exact HB.out)) hb); clear BK436; clear HB; have BK436 := n0_; have HB := n1_; clear n0_ n1_; (try clear hb); (try clear hb2); (try clear hk); (try clear hi)))
                      go_meet
                      case rel => exact ⟨_, (decide ((wrap64 (a1 - (wrap64 ((wrap64 ((wrap64 (86400 * (wrap64 (((rd_T49 l0_0 x13_2).f0) - 730)))) + t447)) + 43200)))) ≥ t448)), (by first | rfl | (simp; done) | (simp [*]; done)), H', ⟨by have := HJ4.out; have := HK2.out; first | omega | exact Nat.le_refl _⟩, ⟨by (with_reducible repeat (first | refine blk_drewN ?_ _ | refine blk_drew ?_ | refine blk_alloc ?_ _)); exact BK436.out⟩, ⟨by repeat (first | (with_reducible first | exact HB.out | apply below_alloc | apply pw_below_drewN | apply below_drew1 | refine below_set ?_ GE436.out) | exact HB.out)⟩⟩
                  case rest =>
                    clear HC23
                    try clear c1
                    try clear c2
                    try clear p2
                    try clear p4
                    try clear q4
                    try clear hx4
                    try clear p6
                    try clear c9
                    try clear c10
                    try clear c11
                    try clear c12
                    try clear c14
                    try clear c20
                    try clear c20b0
                    try clear c21
                    try clear c21b0
                    try clear c25
                    try clear c26
                    try clear c26b0
                    try clear c27
                    try clear hcz11_0
                    try clear hcz11_1
                    try clear hcz11_2
                    try clear hcz16_0
                    try clear hcz16_1
                    try clear hcz16_2
                    try clear hcz24_0
                    try clear hcz24_1
                    try clear hcz24_2
                    try clear hcz28_0
                    try clear hcz28_1
                    try clear hcz28_2
                    try clear hcz8_0
                    try clear hcz8_1
                    try clear hcz8_2
                    try clear hfz11_0
                    try clear hfz11_1
                    try clear hfz11_2
                    try clear hfz16_0
                    try clear hfz16_1
                    try clear hfz16_2
                    try clear hfz24_0
                    try clear hfz24_1
                    try clear hfz24_2
                    try clear hfz28_0
                    try clear hfz28_1
                    try clear hfz28_2
                    try clear hfz8_0
                    try clear hfz8_1
                    try clear hfz8_2
                    try clear hx446_0
                    try clear hx446_1
                    try clear hx446_2
                    try clear p2
                    try clear p446
                    try clear q446
                    obtain ⟨kq, x75_22, rfl, HA, HJ22, BK436, HB⟩ := hcut
                    cases kq with
                    | zero => exact absurd HA.out (by simp [epactlaw25_SmearWindows.j2])
                    | succ kj22 =>
                      have H := HA.out
                      clear HA
                      simp only [epactlaw25_SmearWindows.j2] at H
                      by_cases c30 : x75_22 = true
                      · subst c30
                        have H1 : (epactlaw25_SmearWindows.l0 kj22 a1 t437 t443 t444 t445 x12_2 (wrap64 (x13_2 + 1)) l0_0 a0_1 a0_2) = some r := by rw [if_pos rfl] at H; exact H
                        clear H
                        have H := H1
                        clear H1
                        have H' := Aside0.mk H
                        clear H
                        go_wp2
                        go_roundg kj22
                        case measure => have := HJ4.out; have := HK2.out; have := HJ22.out; omega
                        case rel => exact ⟨(x12_2), (wrap64 (x13_2 + 1)), (by first | rfl | (simp; done) | (simp [*]; done)), (by first | rfl | (simp; done) | (simp [*]; done)), H', ⟨by have := HJ4.out; have := HK2.out; have := HJ22.out; omega⟩, ⟨by (with_reducible repeat (first | refine blk_drewN ?_ _ | refine blk_drew ?_ | refine blk_alloc ?_ _)); exact BK436.out⟩, ⟨by repeat (first | (with_reducible first | exact HB.out | apply below_alloc | apply pw_below_drewN | apply below_drew1 | refine below_set ?_ GE436.out) | exact HB.out)⟩⟩
                      · replace c30 := Bool.eq_false_iff.mpr c30
                        subst c30
                        have H1 : (if t443 = (wrap64 ((wrap64 ((wrap64 (86400 * (wrap64 (((rd_T49 l0_0 x13_2).f0) - 730)))) + t447)) + 43200)) then ((leap_Length.f l0_0 a0_1 a0_2 ((rd_T49 l0_0 x13_2).f0)).bind fun t449 => (if t444 = t449 then (epactlaw25_SmearWindows.l0 kj22 a1 t437 t443 t444 t445 true (wrap64 (x13_2 + 1)) l0_0 a0_1 a0_2) else (none))) else (none)) = some r := by rw [if_neg (show ¬ (false = true) by decide)] at H; exact H
                        clear H
                        have H := H1
                        clear H1
                        by_cases c31 : t443 = (wrap64 ((wrap64 ((wrap64 (86400 * (wrap64 (((rd_T49 l0_0 x13_2).f0) - 730)))) + t447)) + 43200))
                        · rw [if_pos c31] at H
                          have c31b0 : (t443 == (wrap64 ((wrap64 ((wrap64 (86400 * (wrap64 (((rd_T49 l0_0 x13_2).f0) - 730)))) + t447)) + 43200))) = true := beq_iff_eq.mpr c31
                          have c31b1 : (t443 != (wrap64 ((wrap64 ((wrap64 (86400 * (wrap64 (((rd_T49 l0_0 x13_2).f0) - 730)))) + t447)) + 43200))) = false := bne_eq_false_iff_eq.mpr c31
                          clear c31
                          replace H := Option.bind_eq_some_iff.mp H
                          obtain ⟨t449, A320, H⟩ := H
                          replace H : (if t444 = t449 then (epactlaw25_SmearWindows.l0 kj22 a1 t437 t443 t444 t445 true (wrap64 (x13_2 + 1)) l0_0 a0_1 a0_2) else (none)) = some r := H
                          have A32 := Aside0.mk A320
                          clear A320
                          by_cases c33 : t444 = t449
                          · rw [if_pos c33] at H
                            have c33b0 : (t444 == t449) = true := beq_iff_eq.mpr c33
                            have c33b1 : (t444 != t449) = false := bne_eq_false_iff_eq.mpr c33
                            clear c33
                            have H' := Aside0.mk H
                            clear H
                            have hcz34_0 : wc.cell? ⟨gb436, 0, none⟩ = some (.slice (some ad446) l0_0.length c0_0) := (blk_cell BK436.out 0).trans rfl
                            have hcz34_1 : wc.cell? ⟨gb436, 1, none⟩ = some (.bool a0_1) := (blk_cell BK436.out 1).trans rfl
                            have hcz34_2 : wc.cell? ⟨gb436, 2, none⟩ = some (.int .i64 a0_2) := (blk_cell BK436.out 2).trans rfl
                            have hfz34_0 := blk_frozen BK436.out 0
                            have hfz34_1 := blk_frozen BK436.out 1
                            have hfz34_2 := blk_frozen BK436.out 2
                            go_wp2_with (first | (go_at_call 28; (with_reducible refine (leap_Length.calls _ _ l0_0 a0_1 a0_2 ((rd_T49 l0_0 x13_2).f0) t449 _ ?side1 ?side2 A32.out).mono ?_); (case side1 => repeat (first | exact (Kd.C_below HR0_0.out HB.out) | (with_reducible refine Kd.C_alloc ?_ _) | (with_reducible refine Kd.C_drewN ?_ _) | (with_reducible refine Kd.C_drew ?_))); (case side2 => exact HC0_0.out); rintro e w35 ⟨rfl, hb⟩; have n0_ := Aside0.mk (blk_below (g := gb436) (o := .cells #[.slice (some ad446) l0_0.length c0_0, .bool a0_1, .int .i64 a0_2] 44 (0, 0)) (by (with_reducible repeat (first | refine blk_drewN ?_ _ | refine blk_drew ?_ | refine blk_alloc ?_ _)); exact BK436.out) hb); have n1_ := Aside0.mk (below_step (by repeat (first | (with_reducible first | exact HB.out | apply below_alloc | apply pw_below_drewN | apply below_drew1 | refine below_set ?_ GE436.out) | exact HB.out)) hb); clear BK436; clear HB; have BK436 := n0_; have HB := n1_; clear n0_ n1_; (try clear hb); (try clear hb2); (try clear hk); (try clear hi)))
                            go_roundg kj22
                            case measure => have := HJ4.out; have := HK2.out; have := HJ22.out; omega
                            case rel => exact ⟨(true), (wrap64 (x13_2 + 1)), (by first | rfl | (simp; done) | (simp [*]; done)), (by first | rfl | (simp; done) | (simp [*]; done)), H', ⟨by have := HJ4.out; have := HK2.out; have := HJ22.out; omega⟩, ⟨by (with_reducible repeat (first | refine blk_drewN ?_ _ | refine blk_drew ?_ | refine blk_alloc ?_ _)); exact BK436.out⟩, ⟨by repeat (first | (with_reducible first | exact HB.out | apply below_alloc | apply pw_below_drewN | apply below_drew1 | refine below_set ?_ GE436.out) | exact HB.out)⟩⟩
                          · rw [if_neg c33] at H
                            exact absurd H (by simp)
                        · rw [if_neg c31] at H
                          exact absurd H (by simp)
                · rw [if_neg c21] at H
                  exact absurd H (by simp)
              · rw [if_neg c20] at H
                have c20b0 : decide (x13_2 < (l0_0.length : Int)) = false := decide_eq_false c20
                clear c20
                by_cases c36 : t437 = true
                · subst c36
                  have H1 : (if (x12_2 == t445) = true then (if t445 = true then (some true) else (if t443 = 0 then (some (t444 == 0)) else (none))) else (none)) = some r := by rw [if_pos rfl] at H; exact H
                  clear H
                  have H := H1
                  clear H1
                  by_cases c37 : (x12_2 == t445) = true
                  · rw [if_pos c37] at H
                    have c37b0 : (x12_2 == t445) = true := c37
                    (try (have c37b1 : decide (x12_2 = t445) = true := by first | (simp; done) | (simp at c37; done) | simpa using c37))
                    (try (have c37b2 : (x12_2 == t445) = true := by first | (simp; done) | (simp at c37; done) | simpa using c37))
                    clear c37
                    by_cases c38 : t445 = true
                    · subst c38
                      have H1 : (some true) = some r := by rw [if_pos rfl] at H; exact H
                      clear H
                      have H := H1
                      clear H1
                      obtain rfl := Option.some.inj H
                      have hcz39_0 : wr.cell? ⟨gb436, 0, none⟩ = some (.slice A0_0 l0_0.length c0_0) := (blk_cell BK436.out 0).trans rfl
                      have hcz39_1 : wr.cell? ⟨gb436, 1, none⟩ = some (.bool a0_1) := (blk_cell BK436.out 1).trans rfl
                      have hcz39_2 : wr.cell? ⟨gb436, 2, none⟩ = some (.int .i64 a0_2) := (blk_cell BK436.out 2).trans rfl
                      have hfz39_0 := blk_frozen BK436.out 0
                      have hfz39_1 := blk_frozen BK436.out 1
                      have hfz39_2 := blk_frozen BK436.out 2
                      go_wp2
                      go_ret
                      exact ⟨by first | rfl | (simp [errW_none, errW_some] <;> rfl) | (simp [*, errW_none, errW_some] <;> rfl), by repeat (first | (with_reducible first | exact HB.out | apply below_alloc | apply pw_below_drewN | apply below_drew1 | refine below_set ?_ GE436.out) | exact HB.out)⟩
                    · replace c38 := Bool.eq_false_iff.mpr c38
                      subst c38
                      have H1 : (if t443 = 0 then (some (t444 == 0)) else (none)) = some r := by rw [if_neg (show ¬ (false = true) by decide)] at H; exact H
                      clear H
                      have H := H1
                      clear H1
                      by_cases c40 : t443 = 0
                      · rw [if_pos c40] at H
                        have c40b0 : (t443 == 0) = true := beq_iff_eq.mpr c40
                        have c40b1 : (t443 != 0) = false := bne_eq_false_iff_eq.mpr c40
                        clear c40
                        obtain rfl := Option.some.inj H
                        have hcz41_0 : wr.cell? ⟨gb436, 0, none⟩ = some (.slice A0_0 l0_0.length c0_0) := (blk_cell BK436.out 0).trans rfl
                        have hcz41_1 : wr.cell? ⟨gb436, 1, none⟩ = some (.bool a0_1) := (blk_cell BK436.out 1).trans rfl
                        have hcz41_2 : wr.cell? ⟨gb436, 2, none⟩ = some (.int .i64 a0_2) := (blk_cell BK436.out 2).trans rfl
                        have hfz41_0 := blk_frozen BK436.out 0
                        have hfz41_1 := blk_frozen BK436.out 1
                        have hfz41_2 := blk_frozen BK436.out 2
                        go_wp2
                        go_ret
                        exact ⟨by first | rfl | (simp [errW_none, errW_some] <;> rfl) | (simp [*, errW_none, errW_some] <;> rfl), by repeat (first | (with_reducible first | exact HB.out | apply below_alloc | apply pw_below_drewN | apply below_drew1 | refine below_set ?_ GE436.out) | exact HB.out)⟩
                      · rw [if_neg c40] at H
                        exact absurd H (by simp)
                  · rw [if_neg c37] at H
                    exact absurd H (by simp)
                · replace c36 := Bool.eq_false_iff.mpr c36
                  subst c36
                  have H1 : (none) = some r := by rw [if_neg (show ¬ (false = true) by decide)] at H; exact H
                  clear H
                  have H := H1
                  clear H1
                  exact absurd H (by simp)
        · replace c14 := Bool.eq_false_iff.mpr c14
          subst c14
          have H1 : (some t437) = some r := by rw [if_neg (show ¬ (false = true) by decide)] at H; exact H
          clear H
          have H := H1
          clear H1
          obtain rfl := Option.some.inj H
          have hcz42_0 : wc.cell? ⟨gb436, 0, none⟩ = some (.slice A0_0 l0_0.length c0_0) := (blk_cell BK436.out 0).trans rfl
          have hcz42_1 : wc.cell? ⟨gb436, 1, none⟩ = some (.bool a0_1) := (blk_cell BK436.out 1).trans rfl
          have hcz42_2 : wc.cell? ⟨gb436, 2, none⟩ = some (.int .i64 a0_2) := (blk_cell BK436.out 2).trans rfl
          have hfz42_0 := blk_frozen BK436.out 0
          have hfz42_1 := blk_frozen BK436.out 1
          have hfz42_2 := blk_frozen BK436.out 2
          go_wp2_with (first | ((with_reducible refine gate_callee (f := 26) rfl ?_); refine goesL_ (some 30) rfl rfl Try.func26 (by kernel_rfl) rfl #[.agg #[.slice A0_0 l0_0.length c0_0, .bool a0_1, .int .i64 a0_2]] rfl (by (try simp only [List.map_toArray, List.map_cons, List.map_nil]); first | done | rfl | (simp only [List.length_drop, List.length_take]; rfl)) ?_; (with_reducible refine (record_Records.calls kj4 _ _ l0_0 a0_1 a0_2 t439 false _ ?side1 ?side2 A13.out).mono ?_); (case side1 => repeat (first | exact (Kd.C_below HR0_0.out HB.out) | (with_reducible refine Kd.C_alloc ?_ _) | (with_reducible refine Kd.C_drewN ?_ _) | (with_reducible refine Kd.C_drew ?_))); (case side2 => exact HC0_0.out); rintro e w43 ⟨v440, rfl, ho0, hb⟩; refine ⟨_, rfl, ?_⟩; have n0_ := Aside0.mk (Kd.R_lower ho0 (below_size (by repeat (first | (with_reducible first | exact HB.out | apply below_alloc | apply pw_below_drewN | apply below_drew1 | refine below_set ?_ GE436.out) | exact HB.out)))); have n1_ := Aside0.mk (blk_below (g := gb436) (o := .cells #[.slice A0_0 l0_0.length c0_0, .bool a0_1, .int .i64 a0_2] 44 (0, 0)) (by (with_reducible repeat (first | refine blk_drewN ?_ _ | refine blk_drew ?_ | refine blk_alloc ?_ _)); exact BK436.out) hb); have n2_ := Aside0.mk (below_step (by repeat (first | (with_reducible first | exact HB.out | apply below_alloc | apply pw_below_drewN | apply below_drew1 | refine below_set ?_ GE436.out) | exact HB.out)) hb); clear BK436; clear HB; have HO441 := n0_; have BK436 := n1_; have HB := n2_; clear n0_ n1_ n2_; (try clear hb); (try clear hb2); (try clear hk); (try clear hi); (try clear ho0)))
          go_ret
          exact ⟨by first | rfl | (simp [errW_none, errW_some] <;> rfl) | (simp [*, errW_none, errW_some] <;> rfl), by repeat (first | (with_reducible first | exact HB.out | apply below_alloc | apply pw_below_drewN | apply below_drew1 | refine below_set ?_ GE436.out) | exact HB.out)⟩

end Go.Proofs.Ythoigncoojcanaa.PAll
