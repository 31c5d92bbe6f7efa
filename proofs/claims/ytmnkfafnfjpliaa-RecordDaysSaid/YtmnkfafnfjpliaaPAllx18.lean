-- Written for this claim by wip/tools of this repo (after the kit's print; own contracts laid in).
import Derived.Test.YtmnkfafnfjpliaaPAllx0
import Derived.Test.YtmnkfafnfjpliaaPAllx4
import Derived.Test.YtmnkfafnfjpliaaPAllx7
import Derived.Test.YtmnkfafnfjpliaaPAllx8
import Derived.Test.YtmnkfafnfjpliaaPAllx17
namespace Go.Proofs.Ytmnkfafnfjpliaa.PAll
open Go.RowKit Go.Proofs.YtmnkfafnfjpliaaW.PrintWords Go.Proofs.YtmnkfafnfjpliaaW.PrintLast Go.Proofs.YtmnkfafnfjpliaaW.PrintMore
attribute [local go_sem] max2_int min2_int max_two min_two max_three min_three max_four min_four   -- for this text's walks alone
set_option linter.unusedVariables false
set_option linter.unusedSimpArgs false

/-! ### epactlaw12_RecordDays: function 8 -/
mutual
def epactlaw12_RecordDays.j0 : Nat → Int → Bool → Bool → List (S47) → Bool → Int → Option (Bool)
  | 0, _, _, _, _, _, _ => none
  | k + 1, x1, x5, x27, x461000, x461001, x461002 => if x27 = true then (some x5) else ((record_Records.f k x461000 x461001 x461002).bind fun bt463 => (if bt463.2 = true then (if (bt463.1.length : Int) ≤ x1 then (none) else (if 0 ≤ x1 then (if x1 < (x461000.length : Int) then ((leap_Total.f k x461000 x461001 x461002 ((rd_T47 x461000 x1).f0)).bind fun t468 => ((leap_Length.f x461000 x461001 x461002 ((rd_T47 x461000 x1).f0)).bind fun t469 => (if ((rd_T47 x461000 x1).f1) < 0 then (epactlaw12_RecordDays.j1 k x1 x5 bt463.1 ((rd_T47 x461000 x1).f0) t468 (wrap64 ((wrap64 ((wrap64 ((wrap64 ((wrap64 (86400 * ((rd_T47 x461000 x1).f0))) + t468)) + t469)) - 1)) + 1)) x461000 x461001 x461002) else (epactlaw12_RecordDays.j1 k x1 x5 bt463.1 ((rd_T47 x461000 x1).f0) t468 (wrap64 ((wrap64 ((wrap64 ((wrap64 (86400 * ((rd_T47 x461000 x1).f0))) + t468)) + t469)) - 1)) x461000 x461001 x461002)))) else (none)) else (none))) else (some x5)))
def epactlaw12_RecordDays.j1 : Nat → Int → Bool → List (S44) → Int → Int → Int → List (S47) → Bool → Int → Option (Bool)
  | 0, _, _, _, _, _, _, _, _, _ => none
  | k + 1, x1, x5, x7, x9, x10, x11, x461000, x461001, x461002 => if x5 = true then (if 0 ≤ x1 then (if x1 < (x7.length : Int) then (if ((rd_T44 x7 x1).f0) = x11 then ((record_Sum.f k x7 (wrap64 ((wrap64 (86400 * x9)) + x10))).bind fun t472 => (if t472 = x10 then ((record_Sum.f k x7 ((rd_T44 x7 x1).f0)).bind fun t474 => (if x1 < (x461000.length : Int) then (if t474 = (wrap64 (x10 + ((rd_T47 x461000 x1).f1))) then ((record_Step.f k x7 x11).bind fun t476 => (if t476 = ((rd_T47 x461000 x1).f1) then ((record_Step.f k x7 (wrap64 (x11 + 86400))).bind fun t478 => (some (t478 == 0))) else (none))) else (none)) else (none))) else (none))) else (none)) else (none)) else (none)) else (none)
end
def epactlaw12_RecordDays.f (k : Nat) (l0_0 : List (S47)) (a0_1 : Bool) (a0_2 : Int) (a1 : Int) : Option (Bool) := (epactlaw12_small.f k).bind fun t461 => ((epactlaw09_Few.f l0_0 a0_1 a0_2).bind fun t462 => (if t462 = true then (if a1 < 0 then (epactlaw12_RecordDays.j0 k a1 t461 true l0_0 a0_1 a0_2) else (epactlaw12_RecordDays.j0 k a1 t461 (decide (a1 ≥ (l0_0.length : Int))) l0_0 a0_1 a0_2)) else (epactlaw12_RecordDays.j0 k a1 t461 true l0_0 a0_1 a0_2)))
theorem epactlaw12_RecordDays.mono_l : ∀ k, (∀ y0 y1 y2 y3 y4 y5, LeO (epactlaw12_RecordDays.j0 k y0 y1 y2 y3 y4 y5) (epactlaw12_RecordDays.j0 (k + 1) y0 y1 y2 y3 y4 y5)) ∧ (∀ y0 y1 y2 y3 y4 y5 y6 y7 y8, LeO (epactlaw12_RecordDays.j1 k y0 y1 y2 y3 y4 y5 y6 y7 y8) (epactlaw12_RecordDays.j1 (k + 1) y0 y1 y2 y3 y4 y5 y6 y7 y8))
  | 0 => ⟨fun _ _ _ _ _ _ r h => by simp [epactlaw12_RecordDays.j0] at h, fun _ _ _ _ _ _ _ _ _ r h => by simp [epactlaw12_RecordDays.j1] at h⟩
  | k + 1 => by
    obtain ⟨ih0, ih1⟩ := epactlaw12_RecordDays.mono_l k
    refine ⟨?_, ?_⟩
    · intro y0 y1 y2 y3 y4 y5
      unfold epactlaw12_RecordDays.j0
      repeat' first
      | (with_reducible exact ih0 _ _ _ _ _ _)
      | (with_reducible exact ih1 _ _ _ _ _ _ _ _ _)
      | (with_reducible exact epactlaw12_small.mono _)
      | (with_reducible exact leap_Total.mono _ _ _ _ _)
      | (with_reducible exact record_Records.mono _ _ _ _)
      | (with_reducible exact record_Step.mono _ _ _)
      | (with_reducible exact record_Sum.mono _ _ _)
      | (with_reducible exact LeO.refl _)
      | (with_reducible exact LeO.none _)
      | (with_reducible refine LeO.ite ?_ ?_)
      | (with_reducible refine LeO.bind ?_ (fun _ => ?_))
      | exact ih0 _ _ _ _ _ _
      | exact ih1 _ _ _ _ _ _ _ _ _
      | exact epactlaw12_small.mono _
      | exact leap_Total.mono _ _ _ _ _
      | exact record_Records.mono _ _ _ _
      | exact record_Step.mono _ _ _
      | exact record_Sum.mono _ _ _
      | exact LeO.none _
      | refine LeO.ite ?_ ?_
      | refine LeO.bind ?_ (fun _ => ?_)
    · intro y0 y1 y2 y3 y4 y5 y6 y7 y8
      unfold epactlaw12_RecordDays.j1
      repeat' first
      | (with_reducible exact ih0 _ _ _ _ _ _)
      | (with_reducible exact ih1 _ _ _ _ _ _ _ _ _)
      | (with_reducible exact epactlaw12_small.mono _)
      | (with_reducible exact leap_Total.mono _ _ _ _ _)
      | (with_reducible exact record_Records.mono _ _ _ _)
      | (with_reducible exact record_Step.mono _ _ _)
      | (with_reducible exact record_Sum.mono _ _ _)
      | (with_reducible exact LeO.refl _)
      | (with_reducible exact LeO.none _)
      | (with_reducible refine LeO.ite ?_ ?_)
      | (with_reducible refine LeO.bind ?_ (fun _ => ?_))
      | exact ih0 _ _ _ _ _ _
      | exact ih1 _ _ _ _ _ _ _ _ _
      | exact epactlaw12_small.mono _
      | exact leap_Total.mono _ _ _ _ _
      | exact record_Records.mono _ _ _ _
      | exact record_Step.mono _ _ _
      | exact record_Sum.mono _ _ _
      | exact LeO.none _
      | refine LeO.ite ?_ ?_
      | refine LeO.bind ?_ (fun _ => ?_)
theorem epactlaw12_RecordDays.mono : ∀ a0 a1 a2 a3 k, LeO (epactlaw12_RecordDays.f k a0 a1 a2 a3) (epactlaw12_RecordDays.f (k + 1) a0 a1 a2 a3) := by
  intro a0 a1 a2 a3 k
  obtain ⟨ih0, ih1⟩ := epactlaw12_RecordDays.mono_l k
  unfold epactlaw12_RecordDays.f
  repeat' first
      | (with_reducible exact ih0 _ _ _ _ _ _)
      | (with_reducible exact ih1 _ _ _ _ _ _ _ _ _)
      | (with_reducible exact epactlaw12_small.mono _)
      | (with_reducible exact leap_Total.mono _ _ _ _ _)
      | (with_reducible exact record_Records.mono _ _ _ _)
      | (with_reducible exact record_Step.mono _ _ _)
      | (with_reducible exact record_Sum.mono _ _ _)
      | (with_reducible exact LeO.refl _)
      | (with_reducible exact LeO.none _)
      | (with_reducible refine LeO.ite ?_ ?_)
      | (with_reducible refine LeO.bind ?_ (fun _ => ?_))
      | exact ih0 _ _ _ _ _ _
      | exact ih1 _ _ _ _ _ _ _ _ _
      | exact epactlaw12_small.mono _
      | exact leap_Total.mono _ _ _ _ _
      | exact record_Records.mono _ _ _ _
      | exact record_Step.mono _ _ _
      | exact record_Sum.mono _ _ _
      | exact LeO.none _
      | refine LeO.ite ?_ ?_
      | refine LeO.bind ?_ (fun _ => ?_)
def epactlaw12_RecordDays.T15 : Bool × List (List Nat × List Nat) := (true, [([], []), ([0], [0]), ([1], [1]), ([1], [1]), ([2, 3, 1], [1, 2, 3]), ([4, 1], [1, 4]), ([5, 1], [1, 5]), ([1], [1]), ([6, 7, 1], [1, 6, 7]), ([1, 8], [1, 8]), ([9, 1], [9]), ([10], [10]), ([10], [10]), ([12, 10], [10, 12]), ([10], [10]), ([13, 14, 10], [10, 13, 14]), ([11, 15, 10, 10], [10, 11, 15]), ([10], [10]), ([16, 17, 10], [10, 16, 17]), ([10, 18], [10, 18]), ([19, 16], [19]), ([20], [20]), ([20], [20]), ([20], [20]), ([22, 23, 20], [20, 22, 23]), ([24, 20], [20, 24]), ([25, 20], [20, 25]), ([21, 26, 20, 20], [20, 21, 26]), ([20], [20]), ([20], [20]), ([29, 20], [20, 29]), ([20], [20]), ([30, 31, 20], [20, 30, 31]), ([32, 20], [20, 32]), ([33, 20], [20, 33]), ([28, 34, 20], [20, 28, 34]), ([27, 35, 20], [20, 27, 35]), ([20, 36], [20, 36]), ([37, 27], [37]), ([38], [38]), ([38], [38]), ([39, 40, 38, 38], [38, 39, 40]), ([38], [38]), ([42, 38], [38, 42]), ([38], [38]), ([43, 44, 38], [38, 43, 44]), ([45, 38], [38, 45]), ([46, 38], [38, 46]), ([41, 47, 38], [38, 41, 47]), ([38, 48], [38, 48]), ([49, 41], [49]), ([50], [50]), ([50], [50]), ([52, 50], [50, 52]), ([51, 53, 50, 50], [50, 51, 53]), ([54, 50], [50, 54]), ([50, 55], [50, 55]), ([56, 54, 0, 1, 2, 3, 4, 5, 6, 7, 8, 9, 10, 11, 12, 13, 14, 15, 16, 17, 18, 19, 20, 21, 22, 23, 24, 25, 26, 27, 28, 29, 30, 31, 32, 33, 34, 35, 36, 37, 38, 39, 40, 41, 42, 43, 44, 45, 46, 47, 48, 49, 50, 51, 52, 53, 54, 55, 56], [56])])
def epactlaw12_RecordDays.B15 : List Nat := [0, 1, 3, 3, 15, 31, 63, 3, 255, 511, 1023, 2047, 2047, 6143, 2047, 30719, 65535, 2047, 262143, 524287, 1048575, 2097151, 2097151, 2097151, 14680063, 31457279, 65011711, 134217727, 2097151, 2097151, 538968063, 2097151, 3760193535, 8055160831, 16645095423, 34093400063, 68719476735, 137438953471, 274877906943, 549755813887, 549755813887, 2199023255551, 549755813887, 4947802324991, 549755813887, 31336081391615, 66520453480447, 136889197658111, 281474976710655, 562949953421311, 1125899906842623, 2251799813685247, 2251799813685247, 6755399441055743, 18014398509481983, 36028797018963967, 72057594037927935, 144115188075855871]
theorem epactlaw12_RecordDays.tab15 : rtab .any (opsOf Try.f8 15) = epactlaw12_RecordDays.T15 := by kernel_rfl
theorem epactlaw12_RecordDays.bits15 : waitsOk epactlaw12_RecordDays.T15.2 epactlaw12_RecordDays.B15 = true := by kernel_rfl
set_option maxHeartbeats 8000000 in
set_option maxRecDepth 100000 in
theorem epactlaw12_RecordDays.calls (k : Nat) (A0_0 : Option Addr) (c0_0 : Nat) (l0_0 : List (S47)) (a0_1 : Bool) (a0_2 : Int) (a1 : Int) (r : Bool) (w : World) (hr0_0 : Kd.C k47 w A0_0 l0_0.length l0_0) (hc0_0 : l0_0.length ≤ c0_0) (h : epactlaw12_RecordDays.f k l0_0 a0_1 a0_2 a1 = some r) :
    Calls Try.prog 8 #[.agg #[.slice A0_0 l0_0.length c0_0, .bool a0_1, .int .i64 a0_2], .int .i64 a1] w fun e w' => e = .returned (.bool r) ∧ Below w.heap.size w w' := by
  have hu24 := Try.underlying24
  have HR0_0 := Aside0.mk hr0_0
  have HC0_0 := Aside0.mk hc0_0
  clear hr0_0 hc0_0
  have HB := Aside0.mk (Below.refl w.heap.size w)
  have H : ((epactlaw12_small.f k).bind fun t461 => ((epactlaw09_Few.f l0_0 a0_1 a0_2).bind fun t462 => (if t462 = true then (if a1 < 0 then (epactlaw12_RecordDays.j0 k a1 t461 true l0_0 a0_1 a0_2) else (epactlaw12_RecordDays.j0 k a1 t461 (decide (a1 ≥ (l0_0.length : Int))) l0_0 a0_1 a0_2)) else (epactlaw12_RecordDays.j0 k a1 t461 true l0_0 a0_1 a0_2)))) = some r := h
  clear h
  replace H := Option.bind_eq_some_iff.mp H
  obtain ⟨t461, A30, H⟩ := H
  replace H : ((epactlaw09_Few.f l0_0 a0_1 a0_2).bind fun t462 => (if t462 = true then (if a1 < 0 then (epactlaw12_RecordDays.j0 k a1 t461 true l0_0 a0_1 a0_2) else (epactlaw12_RecordDays.j0 k a1 t461 (decide (a1 ≥ (l0_0.length : Int))) l0_0 a0_1 a0_2)) else (epactlaw12_RecordDays.j0 k a1 t461 true l0_0 a0_1 a0_2))) = some r := H
  have A3 := Aside0.mk A30
  clear A30
  replace H := Option.bind_eq_some_iff.mp H
  obtain ⟨t462, A40, H⟩ := H
  replace H : (if t462 = true then (if a1 < 0 then (epactlaw12_RecordDays.j0 k a1 t461 true l0_0 a0_1 a0_2) else (epactlaw12_RecordDays.j0 k a1 t461 (decide (a1 ≥ (l0_0.length : Int))) l0_0 a0_1 a0_2)) else (epactlaw12_RecordDays.j0 k a1 t461 true l0_0 a0_1 a0_2)) = some r := H
  have A4 := Aside0.mk A40
  clear A40
  have HC5 := Aside0.mk H
  clear H
  go_enter Try.func8, Try.ntmps8
  go_upto_region 3 with (first | ((with_reducible refine gate_dst (N := 2) rfl ?_); (try (refine gate_guard (by rfl) ?_; dsimp only)); refine box_event ?hg (N := 2) ?hd (cs := #[.slice A0_0 l0_0.length c0_0, .bool a0_1, .int .i64 a0_2]) (t := 24) ?hr ?_; (case hd => rfl); (case hg => rfl); (case hr => first | (go_simp; done) | (go_simp; rfl)); intro gb460 hg w6 hbox hb; have n0_ := Aside0.mk (below_step (by repeat (first | (with_reducible first | exact HB.out | apply below_alloc | apply pw_below_drewN | apply below_drew1) | exact HB.out)) hb); have n1_ := Aside0.mk (hbox); have n2_ := Aside0.mk ((by rw [hg]; exact (below_size (by repeat (first | (with_reducible first | exact HB.out | apply below_alloc | apply pw_below_drewN | apply below_drew1) | exact HB.out))) : w.heap.size ≤ gb460)); have n3_ := Aside0.mk ((by rw [hg]; exact (below_size (by repeat (first | (with_reducible first | exact HB.out | apply below_alloc | apply pw_below_drewN | apply below_drew1) | exact HB.out))) : w.heap.size ≤ gb460)); clear HB; have HB := n0_; have BK460 := n1_; have GW460 := n2_; have GE460 := n3_; clear n0_ n1_ n2_ n3_; clear hb hbox hg) | ((with_reducible refine gate_callee (f := 9) rfl ?_); refine goesL_ (some 12) rfl rfl Try.func9 (by kernel_rfl) rfl #[] rfl (by (try simp only [List.map_toArray, List.map_cons, List.map_nil]); first | done | rfl | (simp only [List.length_drop, List.length_take]; rfl)) ?_; (with_reducible refine (epactlaw12_small.calls k  t461 _ A3.out).mono ?_); rintro e w7 ⟨rfl, hb⟩; refine ⟨_, rfl, ?_⟩; have n0_ := Aside0.mk (blk_below (g := gb460) (o := .cells #[.slice A0_0 l0_0.length c0_0, .bool a0_1, .int .i64 a0_2] 24 (0, 0)) (by (with_reducible repeat (first | refine blk_drewN ?_ _ | refine blk_drew ?_ | refine blk_alloc ?_ _)); exact BK460.out) hb); have n1_ := Aside0.mk (below_step (by repeat (first | (with_reducible first | exact HB.out | apply below_alloc | apply pw_below_drewN | apply below_drew1 | refine below_set ?_ GE460.out) | exact HB.out)) hb); clear BK460; clear HB; have BK460 := n0_; have HB := n1_; clear n0_ n1_; (try clear hb); (try clear hb2); (try clear hk); (try clear hi); have hcz8_0 : w7.cell? ⟨gb460, 0, none⟩ = some (.slice A0_0 l0_0.length c0_0) := (blk_cell BK460.out 0).trans rfl; have hcz8_1 : w7.cell? ⟨gb460, 1, none⟩ = some (.bool a0_1) := (blk_cell BK460.out 1).trans rfl; have hcz8_2 : w7.cell? ⟨gb460, 2, none⟩ = some (.int .i64 a0_2) := (blk_cell BK460.out 2).trans rfl; have hfz8_0 := blk_frozen BK460.out 0; have hfz8_1 := blk_frozen BK460.out 1; have hfz8_2 := blk_frozen BK460.out 2) | ((with_reducible refine gate_callee (f := 10) rfl ?_); refine goesL_ (some 14) rfl rfl Try.func10 (by kernel_rfl) rfl #[.agg #[.slice A0_0 l0_0.length c0_0, .bool a0_1, .int .i64 a0_2]] rfl (by (try simp only [List.map_toArray, List.map_cons, List.map_nil]); first | done | rfl | (simp only [List.length_drop, List.length_take]; rfl)) ?_; (with_reducible refine (epactlaw09_Few.calls _ _ l0_0 a0_1 a0_2 t462 _ ?side1 ?side2 A4.out).mono ?_); (case side1 => repeat (first | exact (Kd.C_below HR0_0.out HB.out) | (with_reducible refine Kd.C_alloc ?_ _) | (with_reducible refine Kd.C_drewN ?_ _) | (with_reducible refine Kd.C_drew ?_))); (case side2 => exact HC0_0.out); rintro e w9 ⟨rfl, hb⟩; refine ⟨_, rfl, ?_⟩; have n0_ := Aside0.mk (blk_below (g := gb460) (o := .cells #[.slice A0_0 l0_0.length c0_0, .bool a0_1, .int .i64 a0_2] 24 (0, 0)) (by (with_reducible repeat (first | refine blk_drewN ?_ _ | refine blk_drew ?_ | refine blk_alloc ?_ _)); exact BK460.out) hb); have n1_ := Aside0.mk (below_step (by repeat (first | (with_reducible first | exact HB.out | apply below_alloc | apply pw_below_drewN | apply below_drew1 | refine below_set ?_ GE460.out) | exact HB.out)) hb); clear BK460; clear HB; have BK460 := n0_; have HB := n1_; clear n0_ n1_; (try clear hb); (try clear hb2); (try clear hk); (try clear hi)))
  (try simp only [Act.put, List.setIfInBounds_toArray, List.set_cons_zero, List.set_cons_succ])
  go_cut [27] (fun v27 wc => ∃ (kq : Nat) (x27_4 : Bool), v27 = .bool x27_4 ∧ Aside0 (epactlaw12_RecordDays.j0 kq a1 t461 x27_4 l0_0 a0_1 a0_2 = some r) ∧ Aside0 (kq ≤ k) ∧ Aside0 (wc.heap[gb460]? = some (.cells #[(.slice A0_0 l0_0.length c0_0), .bool a0_1, .int .i64 a0_2] 24 (0, 0))) ∧ Aside0 (Below w.heap.size w wc))
  case first =>
    have H := HC5.out
    clear HC5
    by_cases c10 : t462 = true
    · subst c10
      have H1 : (if a1 < 0 then (epactlaw12_RecordDays.j0 k a1 t461 true l0_0 a0_1 a0_2) else (epactlaw12_RecordDays.j0 k a1 t461 (decide (a1 ≥ (l0_0.length : Int))) l0_0 a0_1 a0_2)) = some r := by rw [if_pos rfl] at H; exact H
      clear H
      have H := H1
      clear H1
      by_cases c11 : a1 < 0
      · rw [if_pos c11] at H
        have c11b0 : decide (a1 < 0) = true := decide_eq_true c11
        clear c11
        (first | rw [c11b0] | (simp only [i64_w, i32_w]; rw [c11b0]) | skip)
        have H' := Aside0.mk H
        clear H
        go_wp2
        go_meet
        case rel => exact ⟨_, (true), (by first | rfl | (simp; done) | (simp [*]; done)), H', ⟨by first | omega | exact Nat.le_refl _⟩, ⟨by (with_reducible repeat (first | refine blk_drewN ?_ _ | refine blk_drew ?_ | refine blk_alloc ?_ _)); exact BK460.out⟩, ⟨by repeat (first | (with_reducible first | exact HB.out | apply below_alloc | apply pw_below_drewN | apply below_drew1 | refine below_set ?_ GE460.out) | exact HB.out)⟩⟩
      · rw [if_neg c11] at H
        have c11b0 : decide (a1 < 0) = false := decide_eq_false c11
        clear c11
        (first | rw [c11b0] | (simp only [i64_w, i32_w]; rw [c11b0]) | skip)
        have H' := Aside0.mk H
        clear H
        have hcz12_0 : w9.cell? ⟨gb460, 0, none⟩ = some (.slice A0_0 l0_0.length c0_0) := (blk_cell BK460.out 0).trans rfl
        have hcz12_1 : w9.cell? ⟨gb460, 1, none⟩ = some (.bool a0_1) := (blk_cell BK460.out 1).trans rfl
        have hcz12_2 : w9.cell? ⟨gb460, 2, none⟩ = some (.int .i64 a0_2) := (blk_cell BK460.out 2).trans rfl
        have hfz12_0 := blk_frozen BK460.out 0
        have hfz12_1 := blk_frozen BK460.out 1
        have hfz12_2 := blk_frozen BK460.out 2
        go_wp2
        go_meet
        case rel => exact ⟨_, (decide (a1 ≥ (l0_0.length : Int))), (by first | rfl | (simp; done) | (simp [*]; done)), H', ⟨by first | omega | exact Nat.le_refl _⟩, ⟨by (with_reducible repeat (first | refine blk_drewN ?_ _ | refine blk_drew ?_ | refine blk_alloc ?_ _)); exact BK460.out⟩, ⟨by repeat (first | (with_reducible first | exact HB.out | apply below_alloc | apply pw_below_drewN | apply below_drew1 | refine below_set ?_ GE460.out) | exact HB.out)⟩⟩
    · replace c10 := Bool.eq_false_iff.mpr c10
      subst c10
      have H1 : (epactlaw12_RecordDays.j0 k a1 t461 true l0_0 a0_1 a0_2) = some r := by rw [if_neg (show ¬ (false = true) by decide)] at H; exact H
      clear H
      have H := H1
      clear H1
      have H' := Aside0.mk H
      clear H
      go_wp2
      go_meet
      case rel => exact ⟨_, (true), (by first | rfl | (simp; done) | (simp [*]; done)), H', ⟨by first | omega | exact Nat.le_refl _⟩, ⟨by (with_reducible repeat (first | refine blk_drewN ?_ _ | refine blk_drew ?_ | refine blk_alloc ?_ _)); exact BK460.out⟩, ⟨by repeat (first | (with_reducible first | exact HB.out | apply below_alloc | apply pw_below_drewN | apply below_drew1 | refine below_set ?_ GE460.out) | exact HB.out)⟩⟩
  case rest =>
    clear HC5
    try clear c1
    try clear p2
    try clear c8
    try clear c9
    try clear c10
    try clear c11
    try clear c11b0
    try clear hcz12_0
    try clear hcz12_1
    try clear hcz12_2
    try clear hcz8_0
    try clear hcz8_1
    try clear hcz8_2
    try clear hfz12_0
    try clear hfz12_1
    try clear hfz12_2
    try clear hfz8_0
    try clear hfz8_1
    try clear hfz8_2
    obtain ⟨kq, x27_4, rfl, HA, HJ4, BK460, HB⟩ := hcut
    cases kq with
    | zero => exact absurd HA.out (by simp [epactlaw12_RecordDays.j0])
    | succ kj4 =>
      have H := HA.out
      clear HA
      simp only [epactlaw12_RecordDays.j0] at H
      by_cases c13 : x27_4 = true
      · subst c13
        have H1 : (some t461) = some r := by rw [if_pos rfl] at H; exact H
        clear H
        have H := H1
        clear H1
        obtain rfl := Option.some.inj H
        go_wp2
        go_ret
        exact ⟨by first | rfl | (simp [errW_none, errW_some] <;> rfl) | (simp [*, errW_none, errW_some] <;> rfl), by repeat (first | (with_reducible first | exact HB.out | apply below_alloc | apply pw_below_drewN | apply below_drew1 | refine below_set ?_ GE460.out) | exact HB.out)⟩
      · replace c13 := Bool.eq_false_iff.mpr c13
        subst c13
        have H1 : ((record_Records.f kj4 l0_0 a0_1 a0_2).bind fun bt463 => (if bt463.2 = true then (if (bt463.1.length : Int) ≤ a1 then (none) else (if 0 ≤ a1 then (if a1 < (l0_0.length : Int) then ((leap_Total.f kj4 l0_0 a0_1 a0_2 ((rd_T47 l0_0 a1).f0)).bind fun t468 => ((leap_Length.f l0_0 a0_1 a0_2 ((rd_T47 l0_0 a1).f0)).bind fun t469 => (if ((rd_T47 l0_0 a1).f1) < 0 then (epactlaw12_RecordDays.j1 kj4 a1 t461 bt463.1 ((rd_T47 l0_0 a1).f0) t468 (wrap64 ((wrap64 ((wrap64 ((wrap64 ((wrap64 (86400 * ((rd_T47 l0_0 a1).f0))) + t468)) + t469)) - 1)) + 1)) l0_0 a0_1 a0_2) else (epactlaw12_RecordDays.j1 kj4 a1 t461 bt463.1 ((rd_T47 l0_0 a1).f0) t468 (wrap64 ((wrap64 ((wrap64 ((wrap64 (86400 * ((rd_T47 l0_0 a1).f0))) + t468)) + t469)) - 1)) l0_0 a0_1 a0_2)))) else (none)) else (none))) else (some t461))) = some r := by rw [if_neg (show ¬ (false = true) by decide)] at H; exact H
        clear H
        have H := H1
        clear H1
        replace H := Option.bind_eq_some_iff.mp H
        obtain ⟨⟨t463, t466⟩, A140, H⟩ := H
        replace H : (if t466 = true then (if (t463.length : Int) ≤ a1 then (none) else (if 0 ≤ a1 then (if a1 < (l0_0.length : Int) then ((leap_Total.f kj4 l0_0 a0_1 a0_2 ((rd_T47 l0_0 a1).f0)).bind fun t468 => ((leap_Length.f l0_0 a0_1 a0_2 ((rd_T47 l0_0 a1).f0)).bind fun t469 => (if ((rd_T47 l0_0 a1).f1) < 0 then (epactlaw12_RecordDays.j1 kj4 a1 t461 t463 ((rd_T47 l0_0 a1).f0) t468 (wrap64 ((wrap64 ((wrap64 ((wrap64 ((wrap64 (86400 * ((rd_T47 l0_0 a1).f0))) + t468)) + t469)) - 1)) + 1)) l0_0 a0_1 a0_2) else (epactlaw12_RecordDays.j1 kj4 a1 t461 t463 ((rd_T47 l0_0 a1).f0) t468 (wrap64 ((wrap64 ((wrap64 ((wrap64 (86400 * ((rd_T47 l0_0 a1).f0))) + t468)) + t469)) - 1)) l0_0 a0_1 a0_2)))) else (none)) else (none))) else (some t461)) = some r := H
        have A14 := Aside0.mk A140
        clear A140
        by_cases c15 : t466 = true
        · subst c15
          have H1 : (if (t463.length : Int) ≤ a1 then (none) else (if 0 ≤ a1 then (if a1 < (l0_0.length : Int) then ((leap_Total.f kj4 l0_0 a0_1 a0_2 ((rd_T47 l0_0 a1).f0)).bind fun t468 => ((leap_Length.f l0_0 a0_1 a0_2 ((rd_T47 l0_0 a1).f0)).bind fun t469 => (if ((rd_T47 l0_0 a1).f1) < 0 then (epactlaw12_RecordDays.j1 kj4 a1 t461 t463 ((rd_T47 l0_0 a1).f0) t468 (wrap64 ((wrap64 ((wrap64 ((wrap64 ((wrap64 (86400 * ((rd_T47 l0_0 a1).f0))) + t468)) + t469)) - 1)) + 1)) l0_0 a0_1 a0_2) else (epactlaw12_RecordDays.j1 kj4 a1 t461 t463 ((rd_T47 l0_0 a1).f0) t468 (wrap64 ((wrap64 ((wrap64 ((wrap64 (86400 * ((rd_T47 l0_0 a1).f0))) + t468)) + t469)) - 1)) l0_0 a0_1 a0_2)))) else (none)) else (none))) = some r := by rw [if_pos rfl] at H; exact H
          clear H
          have H := H1
          clear H1
          by_cases c16 : (t463.length : Int) ≤ a1
          · rw [if_pos c16] at H
            exact absurd H (by simp)
          · rw [if_neg c16] at H
            have c16b0 : decide ((t463.length : Int) ≤ a1) = false := decide_eq_false c16
            clear c16
            by_cases c17 : 0 ≤ a1
            · rw [if_pos c17] at H
              have c17b0 : decide (0 ≤ a1) = true := decide_eq_true c17
              clear c17
              by_cases c18 : a1 < (l0_0.length : Int)
              · rw [if_pos c18] at H
                have c18b0 : decide (a1 < (l0_0.length : Int)) = true := decide_eq_true c18
                clear c18
                replace H := Option.bind_eq_some_iff.mp H
                obtain ⟨t468, A190, H⟩ := H
                replace H : ((leap_Length.f l0_0 a0_1 a0_2 ((rd_T47 l0_0 a1).f0)).bind fun t469 => (if ((rd_T47 l0_0 a1).f1) < 0 then (epactlaw12_RecordDays.j1 kj4 a1 t461 t463 ((rd_T47 l0_0 a1).f0) t468 (wrap64 ((wrap64 ((wrap64 ((wrap64 ((wrap64 (86400 * ((rd_T47 l0_0 a1).f0))) + t468)) + t469)) - 1)) + 1)) l0_0 a0_1 a0_2) else (epactlaw12_RecordDays.j1 kj4 a1 t461 t463 ((rd_T47 l0_0 a1).f0) t468 (wrap64 ((wrap64 ((wrap64 ((wrap64 (86400 * ((rd_T47 l0_0 a1).f0))) + t468)) + t469)) - 1)) l0_0 a0_1 a0_2))) = some r := H
                have A19 := Aside0.mk A190
                clear A190
                replace H := Option.bind_eq_some_iff.mp H
                obtain ⟨t469, A200, H⟩ := H
                replace H : (if ((rd_T47 l0_0 a1).f1) < 0 then (epactlaw12_RecordDays.j1 kj4 a1 t461 t463 ((rd_T47 l0_0 a1).f0) t468 (wrap64 ((wrap64 ((wrap64 ((wrap64 ((wrap64 (86400 * ((rd_T47 l0_0 a1).f0))) + t468)) + t469)) - 1)) + 1)) l0_0 a0_1 a0_2) else (epactlaw12_RecordDays.j1 kj4 a1 t461 t463 ((rd_T47 l0_0 a1).f0) t468 (wrap64 ((wrap64 ((wrap64 ((wrap64 (86400 * ((rd_T47 l0_0 a1).f0))) + t468)) + t469)) - 1)) l0_0 a0_1 a0_2)) = some r := H
                have A20 := Aside0.mk A200
                clear A200
                have HC21 := Aside0.mk H
                clear H
                have hcz22_0 : wc.cell? ⟨gb460, 0, none⟩ = some (.slice A0_0 l0_0.length c0_0) := (blk_cell BK460.out 0).trans rfl
                have hcz22_1 : wc.cell? ⟨gb460, 1, none⟩ = some (.bool a0_1) := (blk_cell BK460.out 1).trans rfl
                have hcz22_2 : wc.cell? ⟨gb460, 2, none⟩ = some (.int .i64 a0_2) := (blk_cell BK460.out 2).trans rfl
                have hfz22_0 := blk_frozen BK460.out 0
                have hfz22_1 := blk_frozen BK460.out 1
                have hfz22_2 := blk_frozen BK460.out 2
                go_upto_if 65 with (first | ((with_reducible refine gate_callee (f := 11) rfl ?_); refine goesL_ (some 31) rfl rfl Try.func11 (by kernel_rfl) rfl #[.agg #[.slice A0_0 l0_0.length c0_0, .bool a0_1, .int .i64 a0_2]] rfl (by (try simp only [List.map_toArray, List.map_cons, List.map_nil]); first | done | rfl | (simp only [List.length_drop, List.length_take]; rfl)) ?_; (with_reducible refine (record_Records.calls kj4 _ _ l0_0 a0_1 a0_2 t463 true _ ?side1 ?side2 A14.out).mono ?_); (case side1 => repeat (first | exact (Kd.C_below HR0_0.out HB.out) | (with_reducible refine Kd.C_alloc ?_ _) | (with_reducible refine Kd.C_drewN ?_ _) | (with_reducible refine Kd.C_drew ?_))); (case side2 => exact HC0_0.out); rintro e w23 ⟨v464, rfl, ho0, hb⟩; refine ⟨_, rfl, ?_⟩; have n0_ := Aside0.mk (Kd.R_lower ho0 (below_size (by repeat (first | (with_reducible first | exact HB.out | apply below_alloc | apply pw_below_drewN | apply below_drew1 | refine below_set ?_ GE460.out) | exact HB.out)))); have n1_ := Aside0.mk (blk_below (g := gb460) (o := .cells #[.slice A0_0 l0_0.length c0_0, .bool a0_1, .int .i64 a0_2] 24 (0, 0)) (by (with_reducible repeat (first | refine blk_drewN ?_ _ | refine blk_drew ?_ | refine blk_alloc ?_ _)); exact BK460.out) hb); have n2_ := Aside0.mk (below_step (by repeat (first | (with_reducible first | exact HB.out | apply below_alloc | apply pw_below_drewN | apply below_drew1 | refine below_set ?_ GE460.out) | exact HB.out)) hb); clear BK460; clear HB; have HO465 := n0_; have BK460 := n1_; have HB := n2_; clear n0_ n1_ n2_; (try clear hb); (try clear hb2); (try clear hk); (try clear hi); (try clear ho0); obtain ⟨Ao24, co24, eo24⟩ := Kd.R_slice HO465.out; subst eo24; have hcz25_0 : w23.cell? ⟨gb460, 0, none⟩ = some (.slice A0_0 l0_0.length c0_0) := (blk_cell BK460.out 0).trans rfl; have hcz25_1 : w23.cell? ⟨gb460, 1, none⟩ = some (.bool a0_1) := (blk_cell BK460.out 1).trans rfl; have hcz25_2 : w23.cell? ⟨gb460, 2, none⟩ = some (.int .i64 a0_2) := (blk_cell BK460.out 2).trans rfl; have hfz25_0 := blk_frozen BK460.out 0; have hfz25_1 := blk_frozen BK460.out 1; have hfz25_2 := blk_frozen BK460.out 2; have p467 : 0 ≤ (a1 : Int) := of_decide_eq_true (by first | (with_reducible assumption) | assumption); have q467 : a1 < (l0_0.length : Int) := of_decide_eq_true (by first | (with_reducible assumption) | assumption); obtain ⟨ad467, e467, hx467_0, hx467_1, hx467_2⟩ := at_T47 HR0_0.out a1 p467 q467; cases e467; replace hx467_0 := (HB.out.cell (World.block_lt_of_cell? w _ hx467_0)).trans hx467_0; replace hx467_1 := (HB.out.cell (World.block_lt_of_cell? w _ hx467_1)).trans hx467_1; replace hx467_2 := (HB.out.cell (World.block_lt_of_cell? w _ hx467_2)).trans hx467_2; replace p467 := eq_true p467; replace q467 := eq_true q467) | ((with_reducible refine gate_callee (f := 29) rfl ?_); refine goesL_ (some 49) rfl rfl Try.func29 (by kernel_rfl) rfl #[.agg #[.slice (some ad467) l0_0.length c0_0, .bool a0_1, .int .i64 a0_2], .int .i64 ((rd_T47 l0_0 a1).f0)] rfl (by (try simp only [List.map_toArray, List.map_cons, List.map_nil]); first | done | rfl | (simp only [List.length_drop, List.length_take]; rfl)) ?_; (with_reducible refine (leap_Total.calls kj4 _ _ l0_0 a0_1 a0_2 ((rd_T47 l0_0 a1).f0) t468 _ ?side1 ?side2 A19.out).mono ?_); (case side1 => repeat (first | exact (Kd.C_below HR0_0.out HB.out) | (with_reducible refine Kd.C_alloc ?_ _) | (with_reducible refine Kd.C_drewN ?_ _) | (with_reducible refine Kd.C_drew ?_))); (case side2 => exact HC0_0.out); rintro e w26 ⟨rfl, hb⟩; refine ⟨_, rfl, ?_⟩; have n0_ := Aside0.mk (Kd.R_below (by (with_reducible repeat (first | apply Kd.R_alloc | apply Kd.R_drewN | apply Kd.R_drew)); exact HO465.out) hb); have n1_ := Aside0.mk (blk_below (g := gb460) (o := .cells #[.slice (some ad467) l0_0.length c0_0, .bool a0_1, .int .i64 a0_2] 24 (0, 0)) (by (with_reducible repeat (first | refine blk_drewN ?_ _ | refine blk_drew ?_ | refine blk_alloc ?_ _)); exact BK460.out) hb); have n2_ := Aside0.mk (below_step (by repeat (first | (with_reducible first | exact HB.out | apply below_alloc | apply pw_below_drewN | apply below_drew1 | refine below_set ?_ GE460.out) | exact HB.out)) hb); clear HO465; clear BK460; clear HB; have HO465 := n0_; have BK460 := n1_; have HB := n2_; clear n0_ n1_ n2_; (try clear hb); (try clear hb2); (try clear hk); (try clear hi); have hcz27_0 : w26.cell? ⟨gb460, 0, none⟩ = some (.slice (some ad467) l0_0.length c0_0) := (blk_cell BK460.out 0).trans rfl; have hcz27_1 : w26.cell? ⟨gb460, 1, none⟩ = some (.bool a0_1) := (blk_cell BK460.out 1).trans rfl; have hcz27_2 : w26.cell? ⟨gb460, 2, none⟩ = some (.int .i64 a0_2) := (blk_cell BK460.out 2).trans rfl; have hfz27_0 := blk_frozen BK460.out 0; have hfz27_1 := blk_frozen BK460.out 1; have hfz27_2 := blk_frozen BK460.out 2) | ((with_reducible refine gate_callee (f := 30) rfl ?_); refine goesL_ (some 56) rfl rfl Try.func30 (by kernel_rfl) rfl #[.agg #[.slice (some ad467) l0_0.length c0_0, .bool a0_1, .int .i64 a0_2], .int .i64 ((rd_T47 l0_0 a1).f0)] rfl (by (try simp only [List.map_toArray, List.map_cons, List.map_nil]); first | done | rfl | (simp only [List.length_drop, List.length_take]; rfl)) ?_; (with_reducible refine (leap_Length.calls _ _ l0_0 a0_1 a0_2 ((rd_T47 l0_0 a1).f0) t469 _ ?side1 ?side2 A20.out).mono ?_); (case side1 => repeat (first | exact (Kd.C_below HR0_0.out HB.out) | (with_reducible refine Kd.C_alloc ?_ _) | (with_reducible refine Kd.C_drewN ?_ _) | (with_reducible refine Kd.C_drew ?_))); (case side2 => exact HC0_0.out); rintro e w28 ⟨rfl, hb⟩; refine ⟨_, rfl, ?_⟩; have n0_ := Aside0.mk (Kd.R_below (by (with_reducible repeat (first | apply Kd.R_alloc | apply Kd.R_drewN | apply Kd.R_drew)); exact HO465.out) hb); have n1_ := Aside0.mk (blk_below (g := gb460) (o := .cells #[.slice (some ad467) l0_0.length c0_0, .bool a0_1, .int .i64 a0_2] 24 (0, 0)) (by (with_reducible repeat (first | refine blk_drewN ?_ _ | refine blk_drew ?_ | refine blk_alloc ?_ _)); exact BK460.out) hb); have n2_ := Aside0.mk (below_step (by repeat (first | (with_reducible first | exact HB.out | apply below_alloc | apply pw_below_drewN | apply below_drew1 | refine below_set ?_ GE460.out) | exact HB.out)) hb); clear HO465; clear BK460; clear HB; have HO465 := n0_; have BK460 := n1_; have HB := n2_; clear n0_ n1_ n2_; (try clear hb); (try clear hb2); (try clear hk); (try clear hi); have hcz29_0 : w28.cell? ⟨gb460, 0, none⟩ = some (.slice (some ad467) l0_0.length c0_0) := (blk_cell BK460.out 0).trans rfl; have hcz29_1 : w28.cell? ⟨gb460, 1, none⟩ = some (.bool a0_1) := (blk_cell BK460.out 1).trans rfl; have hcz29_2 : w28.cell? ⟨gb460, 2, none⟩ = some (.int .i64 a0_2) := (blk_cell BK460.out 2).trans rfl; have hfz29_0 := blk_frozen BK460.out 0; have hfz29_1 := blk_frozen BK460.out 1; have hfz29_2 := blk_frozen BK460.out 2; have p470 : 0 ≤ (a1 : Int) := of_decide_eq_true (by first | (with_reducible assumption) | assumption); have q470 : a1 < (l0_0.length : Int) := of_decide_eq_true (by first | (with_reducible assumption) | assumption); obtain ⟨ad470, e470, hx470_0, hx470_1, hx470_2⟩ := at_T47 HR0_0.out a1 p470 q470; obtain rfl : ad467 = ad470 := (by injection e470); replace hx470_0 := (HB.out.cell (World.block_lt_of_cell? w _ hx470_0)).trans hx470_0; replace hx470_1 := (HB.out.cell (World.block_lt_of_cell? w _ hx470_1)).trans hx470_1; replace hx470_2 := (HB.out.cell (World.block_lt_of_cell? w _ hx470_2)).trans hx470_2; replace p470 := eq_true p470; replace q470 := eq_true q470))
                (try simp only [Act.put, List.setIfInBounds_toArray, List.set_cons_zero, List.set_cons_succ])
                go_cut [11] (fun v11 wc => ∃ (kq : Nat) (x11_20 : Int), v11 = .int .i64 x11_20 ∧ Aside0 (epactlaw12_RecordDays.j1 kq a1 t461 t463 ((rd_T47 l0_0 a1).f0) t468 x11_20 l0_0 a0_1 a0_2 = some r) ∧ Aside0 (kq ≤ kj4) ∧ Aside0 (Kd.R k44 44 wc w.heap.size (fun _ => True) (.slice Ao24 t463.length co24) t463) ∧ Aside0 (wc.heap[gb460]? = some (.cells #[(.slice (some ad467) l0_0.length c0_0), .bool a0_1, .int .i64 a0_2] 24 (0, 0))) ∧ Aside0 (Below w.heap.size w wc))
                case first =>
                  have H := HC21.out
                  clear HC21
                  by_cases c30 : ((rd_T47 l0_0 a1).f1) < 0
                  · rw [if_pos c30] at H
                    have c30b0 : decide (((rd_T47 l0_0 a1).f1) < 0) = true := decide_eq_true c30
                    clear c30
                    (first | rw [c30b0] | (simp only [i64_w, i32_w]; rw [c30b0]) | skip)
                    have H' := Aside0.mk H
                    clear H
                    go_wp2
                    go_meet
                    case rel => exact ⟨_, (wrap64 ((wrap64 ((wrap64 ((wrap64 ((wrap64 (86400 * ((rd_T47 l0_0 a1).f0))) + t468)) + t469)) - 1)) + 1)), (by first | rfl | (simp; done) | (simp [*]; done)), H', ⟨by have := HJ4.out; first | omega | exact Nat.le_refl _⟩, ⟨by (with_reducible repeat (first | apply Kd.R_alloc | apply Kd.R_drewN | apply Kd.R_drew)); exact HO465.out⟩, ⟨by (with_reducible repeat (first | refine blk_drewN ?_ _ | refine blk_drew ?_ | refine blk_alloc ?_ _)); exact BK460.out⟩, ⟨by repeat (first | (with_reducible first | exact HB.out | apply below_alloc | apply pw_below_drewN | apply below_drew1 | refine below_set ?_ GE460.out) | exact HB.out)⟩⟩
                  · rw [if_neg c30] at H
                    have c30b0 : decide (((rd_T47 l0_0 a1).f1) < 0) = false := decide_eq_false c30
                    clear c30
                    (first | rw [c30b0] | (simp only [i64_w, i32_w]; rw [c30b0]) | skip)
                    have H' := Aside0.mk H
                    clear H
                    go_wp2
                    go_meet
                    case rel => exact ⟨_, (wrap64 ((wrap64 ((wrap64 ((wrap64 (86400 * ((rd_T47 l0_0 a1).f0))) + t468)) + t469)) - 1)), (by first | rfl | (simp; done) | (simp [*]; done)), H', ⟨by have := HJ4.out; first | omega | exact Nat.le_refl _⟩, ⟨by (with_reducible repeat (first | apply Kd.R_alloc | apply Kd.R_drewN | apply Kd.R_drew)); exact HO465.out⟩, ⟨by (with_reducible repeat (first | refine blk_drewN ?_ _ | refine blk_drew ?_ | refine blk_alloc ?_ _)); exact BK460.out⟩, ⟨by repeat (first | (with_reducible first | exact HB.out | apply below_alloc | apply pw_below_drewN | apply below_drew1 | refine below_set ?_ GE460.out) | exact HB.out)⟩⟩
                case rest =>
                  clear HC21
                  try clear c1
                  try clear c2
                  try clear p2
                  try clear c3
                  try clear p4
                  try clear q4
                  try clear hx4
                  try clear p6
                  try clear c8
                  try clear c9
                  try clear c10
                  try clear c11
                  try clear c11b0
                  try clear c13
                  try clear c15
                  try clear c16
                  try clear c16b0
                  try clear c17
                  try clear c17b0
                  try clear c18
                  try clear c18b0
                  try clear c29
                  try clear c30
                  try clear c30b0
                  try clear hcz12_0
                  try clear hcz12_1
                  try clear hcz12_2
                  try clear hcz22_0
                  try clear hcz22_1
                  try clear hcz22_2
                  try clear hcz25_0
                  try clear hcz25_1
                  try clear hcz25_2
                  try clear hcz27_0
                  try clear hcz27_1
                  try clear hcz27_2
                  try clear hcz29_0
                  try clear hcz29_1
                  try clear hcz29_2
                  try clear hcz8_0
                  try clear hcz8_1
                  try clear hcz8_2
                  try clear hfz12_0
                  try clear hfz12_1
                  try clear hfz12_2
                  try clear hfz22_0
                  try clear hfz22_1
                  try clear hfz22_2
                  try clear hfz25_0
                  try clear hfz25_1
                  try clear hfz25_2
                  try clear hfz27_0
                  try clear hfz27_1
                  try clear hfz27_2
                  try clear hfz29_0
                  try clear hfz29_1
                  try clear hfz29_2
                  try clear hfz8_0
                  try clear hfz8_1
                  try clear hfz8_2
                  try clear hx467_0
                  try clear hx467_1
                  try clear hx467_2
                  try clear hx470_0
                  try clear hx470_1
                  try clear hx470_2
                  try clear p2
                  try clear p467
                  try clear p470
                  try clear q467
                  try clear q470
                  obtain ⟨kq, x11_20, rfl, HA, HJ20, HO_7, BK460, HB⟩ := hcut
                  cases kq with
                  | zero => exact absurd HA.out (by simp [epactlaw12_RecordDays.j1])
                  | succ kj20 =>
                    have H := HA.out
                    clear HA
                    simp only [epactlaw12_RecordDays.j1] at H
                    by_cases c31 : t461 = true
                    · subst c31
                      have H1 : (if 0 ≤ a1 then (if a1 < (t463.length : Int) then (if ((rd_T44 t463 a1).f0) = x11_20 then ((record_Sum.f kj20 t463 (wrap64 ((wrap64 (86400 * ((rd_T47 l0_0 a1).f0))) + t468))).bind fun t472 => (if t472 = t468 then ((record_Sum.f kj20 t463 ((rd_T44 t463 a1).f0)).bind fun t474 => (if a1 < (l0_0.length : Int) then (if t474 = (wrap64 (t468 + ((rd_T47 l0_0 a1).f1))) then ((record_Step.f kj20 t463 x11_20).bind fun t476 => (if t476 = ((rd_T47 l0_0 a1).f1) then ((record_Step.f kj20 t463 (wrap64 (x11_20 + 86400))).bind fun t478 => (some (t478 == 0))) else (none))) else (none)) else (none))) else (none))) else (none)) else (none)) else (none)) = some r := by rw [if_pos rfl] at H; exact H
                      clear H
                      have H := H1
                      clear H1
                      by_cases c32 : 0 ≤ a1
                      · rw [if_pos c32] at H
                        have c32b0 : decide (0 ≤ a1) = true := decide_eq_true c32
                        clear c32
                        by_cases c33 : a1 < (t463.length : Int)
                        · rw [if_pos c33] at H
                          have c33b0 : decide (a1 < (t463.length : Int)) = true := decide_eq_true c33
                          clear c33
                          by_cases c34 : ((rd_T44 t463 a1).f0) = x11_20
                          · rw [if_pos c34] at H
                            have c34b0 : (((rd_T44 t463 a1).f0) == x11_20) = true := beq_iff_eq.mpr c34
                            have c34b1 : (((rd_T44 t463 a1).f0) != x11_20) = false := bne_eq_false_iff_eq.mpr c34
                            clear c34
                            replace H := Option.bind_eq_some_iff.mp H
                            obtain ⟨t472, A350, H⟩ := H
                            replace H : (if t472 = t468 then ((record_Sum.f kj20 t463 ((rd_T44 t463 a1).f0)).bind fun t474 => (if a1 < (l0_0.length : Int) then (if t474 = (wrap64 (t468 + ((rd_T47 l0_0 a1).f1))) then ((record_Step.f kj20 t463 x11_20).bind fun t476 => (if t476 = ((rd_T47 l0_0 a1).f1) then ((record_Step.f kj20 t463 (wrap64 (x11_20 + 86400))).bind fun t478 => (some (t478 == 0))) else (none))) else (none)) else (none))) else (none)) = some r := H
                            have A35 := Aside0.mk A350
                            clear A350
                            by_cases c36 : t472 = t468
                            · rw [if_pos c36] at H
                              have c36b0 : (t472 == t468) = true := beq_iff_eq.mpr c36
                              have c36b1 : (t472 != t468) = false := bne_eq_false_iff_eq.mpr c36
                              clear c36
                              replace H := Option.bind_eq_some_iff.mp H
                              obtain ⟨t474, A370, H⟩ := H
                              replace H : (if a1 < (l0_0.length : Int) then (if t474 = (wrap64 (t468 + ((rd_T47 l0_0 a1).f1))) then ((record_Step.f kj20 t463 x11_20).bind fun t476 => (if t476 = ((rd_T47 l0_0 a1).f1) then ((record_Step.f kj20 t463 (wrap64 (x11_20 + 86400))).bind fun t478 => (some (t478 == 0))) else (none))) else (none)) else (none)) = some r := H
                              have A37 := Aside0.mk A370
                              clear A370
                              by_cases c38 : a1 < (l0_0.length : Int)
                              · rw [if_pos c38] at H
                                have c38b0 : decide (a1 < (l0_0.length : Int)) = true := decide_eq_true c38
                                clear c38
                                by_cases c39 : t474 = (wrap64 (t468 + ((rd_T47 l0_0 a1).f1)))
                                · rw [if_pos c39] at H
                                  have c39b0 : (t474 == (wrap64 (t468 + ((rd_T47 l0_0 a1).f1)))) = true := beq_iff_eq.mpr c39
                                  have c39b1 : (t474 != (wrap64 (t468 + ((rd_T47 l0_0 a1).f1)))) = false := bne_eq_false_iff_eq.mpr c39
                                  clear c39
                                  replace H := Option.bind_eq_some_iff.mp H
                                  obtain ⟨t476, A400, H⟩ := H
                                  replace H : (if t476 = ((rd_T47 l0_0 a1).f1) then ((record_Step.f kj20 t463 (wrap64 (x11_20 + 86400))).bind fun t478 => (some (t478 == 0))) else (none)) = some r := H
                                  have A40 := Aside0.mk A400
                                  clear A400
                                  by_cases c41 : t476 = ((rd_T47 l0_0 a1).f1)
                                  · rw [if_pos c41] at H
                                    have c41b0 : (t476 == ((rd_T47 l0_0 a1).f1)) = true := beq_iff_eq.mpr c41
                                    have c41b1 : (t476 != ((rd_T47 l0_0 a1).f1)) = false := bne_eq_false_iff_eq.mpr c41
                                    clear c41
                                    replace H := Option.bind_eq_some_iff.mp H
                                    obtain ⟨t478, A420, H⟩ := H
                                    replace H : (some (t478 == 0)) = some r := H
                                    have A42 := Aside0.mk A420
                                    clear A420
                                    obtain rfl := Option.some.inj H
                                    try go_wp2
                                    have n0_ := Aside0.mk (Kd.R_drew HO_7.out)
                                    have n1_ := Aside0.mk (blk_drew BK460.out)
                                    have n2_ := Aside0.mk (below_drew1 HB.out)
                                    clear HO_7
                                    clear BK460
                                    clear HB
                                    have HO_7 := n0_
                                    have BK460 := n1_
                                    have HB := n2_
                                    clear n0_ n1_ n2_
                                    have p471 : 0 ≤ (a1 : Int) := of_decide_eq_true (by first | (with_reducible assumption) | assumption)
                                    have q471 : a1 < (t463.length : Int) := of_decide_eq_true (by first | (with_reducible assumption) | assumption)
                                    obtain ⟨ad471, e471, hx471_0, hx471_1⟩ := at_T44 (Kd.R_reads' HO_7.out).2.2 a1 p471 q471
                                    cases e471
                                    replace p471 := eq_true p471
                                    replace q471 := eq_true q471
                                    have p473 : 0 ≤ (a1 : Int) := of_decide_eq_true (by first | (with_reducible assumption) | assumption)
                                    have q473 : a1 < (t463.length : Int) := of_decide_eq_true (by first | (with_reducible assumption) | assumption)
                                    obtain ⟨ad473, e473, hx473_0, hx473_1⟩ := at_T44 (Kd.R_reads' HO_7.out).2.2 a1 p473 q473
                                    obtain rfl : ad471 = ad473 := (by injection e473)
                                    replace p473 := eq_true p473
                                    replace q473 := eq_true q473
                                    have p475 : 0 ≤ (a1 : Int) := of_decide_eq_true (by first | (with_reducible assumption) | assumption)
                                    have q475 : a1 < (l0_0.length : Int) := of_decide_eq_true (by first | (with_reducible assumption) | assumption)
                                    obtain ⟨ad475, e475, hx475_0, hx475_1, hx475_2⟩ := at_T47 HR0_0.out a1 p475 q475
                                    have hw475_2 := hx475_2
                                    have hw475_1 := hx475_1
                                    have hw475_0 := hx475_0
                                    obtain rfl : ad467 = ad475 := (by injection e475)
                                    replace hx475_0 := (HB.out.cell (World.block_lt_of_cell? w _ hx475_0)).trans hx475_0
                                    replace hx475_1 := (HB.out.cell (World.block_lt_of_cell? w _ hx475_1)).trans hx475_1
                                    replace hx475_2 := (HB.out.cell (World.block_lt_of_cell? w _ hx475_2)).trans hx475_2
                                    replace p475 := eq_true p475
                                    replace q475 := eq_true q475
                                    have p477 : 0 ≤ (a1 : Int) := of_decide_eq_true (by first | (with_reducible assumption) | assumption)
                                    have q477 : a1 < (l0_0.length : Int) := of_decide_eq_true (by first | (with_reducible assumption) | assumption)
                                    obtain ⟨ad477, e477, hx477_0, hx477_1, hx477_2⟩ := at_T47 HR0_0.out a1 p477 q477
                                    have hw477_2 := hx477_2
                                    have hw477_1 := hx477_1
                                    have hw477_0 := hx477_0
                                    obtain rfl : ad467 = ad477 := (by injection e477)
                                    replace hx477_0 := (HB.out.cell (World.block_lt_of_cell? w _ hx477_0)).trans hx477_0
                                    replace hx477_1 := (HB.out.cell (World.block_lt_of_cell? w _ hx477_1)).trans hx477_1
                                    replace hx477_2 := (HB.out.cell (World.block_lt_of_cell? w _ hx477_2)).trans hx477_2
                                    replace p477 := eq_true p477
                                    replace q477 := eq_true q477
                                    refine start_ (n := 58) (S := fun w' => w'.cell? ⟨gb460, 0, none⟩ = some (.slice (some ad467) l0_0.length c0_0) ∧ w'.cell? ⟨gb460, 1, none⟩ = some (.bool a0_1) ∧ w'.cell? ⟨gb460, 2, none⟩ = some (.int .i64 a0_2) ∧ w'.cell? (ad471.add ((a1).toNat * 2)) = some (.int .i64 ((rd_T44 t463 a1).f0)) ∧ w'.cell? ⟨(ad471.add ((a1).toNat * 2)).block, (ad471.add ((a1).toNat * 2)).off + 1, none⟩ = some (.int .i64 ((rd_T44 t463 a1).f1)) ∧ w'.cell? (ad471.add ((a1).toNat * 2)) = some (.int .i64 ((rd_T44 t463 a1).f0)) ∧ w'.cell? ⟨(ad471.add ((a1).toNat * 2)).block, (ad471.add ((a1).toNat * 2)).off + 1, none⟩ = some (.int .i64 ((rd_T44 t463 a1).f1)) ∧ w'.cell? (ad467.add ((a1).toNat * 3)) = some (.int .i64 ((rd_T47 l0_0 a1).f0)) ∧ w'.cell? ⟨(ad467.add ((a1).toNat * 3)).block, (ad467.add ((a1).toNat * 3)).off + 1, none⟩ = some (.int .i64 ((rd_T47 l0_0 a1).f1)) ∧ w'.cell? ⟨(ad467.add ((a1).toNat * 3)).block, (ad467.add ((a1).toNat * 3)).off + 2, none⟩ = some (.bool ((rd_T47 l0_0 a1).f2)) ∧ w'.cell? (ad467.add ((a1).toNat * 3)) = some (.int .i64 ((rd_T47 l0_0 a1).f0)) ∧ w'.cell? ⟨(ad467.add ((a1).toNat * 3)).block, (ad467.add ((a1).toNat * 3)).off + 1, none⟩ = some (.int .i64 ((rd_T47 l0_0 a1).f1)) ∧ w'.cell? ⟨(ad467.add ((a1).toNat * 3)).block, (ad467.add ((a1).toNat * 3)).off + 2, none⟩ = some (.bool ((rd_T47 l0_0 a1).f2))) (ds := []) #[false, false, false, false, false, false, false, false, false, false, false, false, false, false, false, false, false, false, false, false, false, false, false, false, false, false, false, false, false, false, false, false, false, false, false, false, false, false, false, false, false, false, false, false, false, false, false, false, false, false, false, false, false, false, false, false, false, false] (by kernel_rfl) rfl rfl ⟨(blk_cell BK460.out 0).trans rfl, (blk_cell BK460.out 1).trans rfl, (blk_cell BK460.out 2).trans rfl, hx471_0, hx471_1, hx473_0, hx473_1, ((HB.out.cell (World.block_lt_of_cell? w _ hw475_0)).trans hw475_0), ((HB.out.cell (World.block_lt_of_cell? w _ hw475_1)).trans hw475_1), ((HB.out.cell (World.block_lt_of_cell? w _ hw475_2)).trans hw475_2), ((HB.out.cell (World.block_lt_of_cell? w _ hw477_0)).trans hw477_0), ((HB.out.cell (World.block_lt_of_cell? w _ hw477_1)).trans hw477_1), ((HB.out.cell (World.block_lt_of_cell? w _ hw477_2)).trans hw477_2)⟩ (fun hHeld => ?_); refine with_tabW epactlaw12_RecordDays.tab15 epactlaw12_RecordDays.bits15 (fun HT_ HW_ => ?_)
                                    generalize wc.drew = w43 at HO_7 BK460 HB hx471_0 hx471_1 hx473_0 hx473_1 hx475_0 hx475_1 hx475_2 hx477_0 hx477_1 hx477_2 hHeld ⊢
                                    refine pure_ (i := 0) (N := some 68) (v := ?_) (a' := ?_) #[true, false, false, false, false, false, false, false, false, false, false, false, false, false, false, false, false, false, false, false, false, false, false, false, false, false, false, false, false, false, false, false, false, false, false, false, false, false, false, false, false, false, false, false, false, false, false, false, false, false, false, false, false, false, false, false, false, false] rfl rfl (any_of HT_.out (by kernel_rfl)) (fun _ _ _ h => h) (Or.inl ⟨by rfl, ?_⟩) ?_ ?_
                                    rotate_left
                                    · intro w'
                                      go_simp
                                      with_reducible rfl
                                    rotate_left
                                    · simp only [Act.put, List.setIfInBounds_toArray, List.set_cons_zero, List.set_cons_succ, i64_w, i32_w]
                                      rfl
                                    refine pure_ (i := 1) (N := some 69) (v := ?_) (a' := ?_) #[true, true, false, false, false, false, false, false, false, false, false, false, false, false, false, false, false, false, false, false, false, false, false, false, false, false, false, false, false, false, false, false, false, false, false, false, false, false, false, false, false, false, false, false, false, false, false, false, false, false, false, false, false, false, false, false, false, false] rfl rfl (any_of HT_.out (by kernel_rfl)) (fun _ _ _ h => h) (Or.inl ⟨by rfl, ?_⟩) ?_ ?_
                                    rotate_left
                                    · intro w'
                                      go_simp
                                      with_reducible rfl
                                    rotate_left
                                    · simp only [Act.put, List.setIfInBounds_toArray, List.set_cons_zero, List.set_cons_succ, i64_w, i32_w]
                                      rfl
                                    refine pure_ (i := 2) (N := some 70) (v := ?_) (a' := ?_) #[true, true, true, false, false, false, false, false, false, false, false, false, false, false, false, false, false, false, false, false, false, false, false, false, false, false, false, false, false, false, false, false, false, false, false, false, false, false, false, false, false, false, false, false, false, false, false, false, false, false, false, false, false, false, false, false, false, false] rfl rfl (any_of HT_.out (by kernel_rfl)) (fun _ _ _ h => h) (Or.inl ⟨by rfl, ?_⟩) ?_ ?_
                                    rotate_left
                                    · intro w'
                                      go_simp
                                      with_reducible rfl
                                    rotate_left
                                    · simp only [Act.put, List.setIfInBounds_toArray, List.set_cons_zero, List.set_cons_succ, i64_w, i32_w]
                                      rfl
                                    refine pure_ (i := 3) (N := some 71) (v := ?_) (a' := ?_) #[true, true, true, true, false, false, false, false, false, false, false, false, false, false, false, false, false, false, false, false, false, false, false, false, false, false, false, false, false, false, false, false, false, false, false, false, false, false, false, false, false, false, false, false, false, false, false, false, false, false, false, false, false, false, false, false, false, false] rfl rfl (any_of HT_.out (by kernel_rfl)) (fun _ _ _ h => h) (Or.inl ⟨by rfl, ?_⟩) ?_ ?_
                                    rotate_left
                                    · intro w'
                                      go_simp
                                      with_reducible rfl
                                    rotate_left
                                    · simp only [Act.put, List.setIfInBounds_toArray, List.set_cons_zero, List.set_cons_succ, i64_w, i32_w]
                                      rfl
                                    refine pure_ (i := 4) (N := some 72) (v := ?_) (a' := ?_) #[true, true, true, true, true, false, false, false, false, false, false, false, false, false, false, false, false, false, false, false, false, false, false, false, false, false, false, false, false, false, false, false, false, false, false, false, false, false, false, false, false, false, false, false, false, false, false, false, false, false, false, false, false, false, false, false, false, false] rfl rfl (any_of HT_.out (by kernel_rfl)) (fun _ _ _ h => h) (Or.inl ⟨by rfl, ?_⟩) ?_ ?_
                                    rotate_left
                                    · intro w'
                                      go_simp
                                      with_reducible rfl
                                    rotate_left
                                    · simp only [Act.put, List.setIfInBounds_toArray, List.set_cons_zero, List.set_cons_succ, i64_w, i32_w]
                                      rfl
                                    refine pure_ (i := 5) (N := some 73) (v := ?_) (a' := ?_) #[true, true, true, true, true, true, false, false, false, false, false, false, false, false, false, false, false, false, false, false, false, false, false, false, false, false, false, false, false, false, false, false, false, false, false, false, false, false, false, false, false, false, false, false, false, false, false, false, false, false, false, false, false, false, false, false, false, false] rfl rfl (any_of HT_.out (by kernel_rfl)) (fun _ _ _ h => h) (Or.inl ⟨by rfl, ?_⟩) ?_ ?_
                                    rotate_left
                                    · intro w'
                                      go_simp
                                      with_reducible rfl
                                    rotate_left
                                    · simp only [Act.put, List.setIfInBounds_toArray, List.set_cons_zero, List.set_cons_succ, i64_w, i32_w]
                                      rfl
                                    refine pure_ (i := 7) (N := some 75) (v := ?_) (a' := ?_) #[true, true, true, true, true, true, false, true, false, false, false, false, false, false, false, false, false, false, false, false, false, false, false, false, false, false, false, false, false, false, false, false, false, false, false, false, false, false, false, false, false, false, false, false, false, false, false, false, false, false, false, false, false, false, false, false, false, false] rfl rfl (any_of HT_.out (by kernel_rfl)) (fun _ _ _ h => h) (Or.inl ⟨by rfl, ?_⟩) ?_ ?_
                                    rotate_left
                                    · intro w'
                                      go_simp
                                      with_reducible rfl
                                    rotate_left
                                    · simp only [Act.put, List.setIfInBounds_toArray, List.set_cons_zero, List.set_cons_succ, i64_w, i32_w]
                                      rfl
                                    refine take_ (i := 6) (N := some 74) (v := ?_) (a' := ?_) #[true, true, true, true, true, true, true, true, false, false, false, false, false, false, false, false, false, false, false, false, false, false, false, false, false, false, false, false, false, false, false, false, false, false, false, false, false, false, false, false, false, false, false, false, false, false, false, false, false, false, false, false, false, false, false, false, false, false] rfl rfl (take_ofW HT_.out HW_.out (by kernel_rfl)) (fun _ _ _ h => h) (Or.inl ⟨by rfl, ?_⟩) hHeld ?_ ?_
                                    rotate_left
                                    · rintro w' ⟨s0, s1, s2, s3, s4, s5, s6, s7, s8, s9, s10, s11, s12⟩
                                      go_simp
                                      with_reducible rfl
                                    rotate_left
                                    · simp only [Act.put, List.setIfInBounds_toArray, List.set_cons_zero, List.set_cons_succ, i64_w, i32_w]
                                      rfl
                                    refine pure_ (i := 8) (N := some 76) (v := ?_) (a' := ?_) #[true, true, true, true, true, true, true, true, true, false, false, false, false, false, false, false, false, false, false, false, false, false, false, false, false, false, false, false, false, false, false, false, false, false, false, false, false, false, false, false, false, false, false, false, false, false, false, false, false, false, false, false, false, false, false, false, false, false] rfl rfl (any_of HT_.out (by kernel_rfl)) (fun _ _ _ h => h) (Or.inl ⟨by rfl, ?_⟩) ?_ ?_
                                    rotate_left
                                    · intro w'
                                      go_simp
                                      with_reducible rfl
                                    rotate_left
                                    · simp only [Act.put, List.setIfInBounds_toArray, List.set_cons_zero, List.set_cons_succ, i64_w, i32_w]
                                      rfl
                                    refine pure_ (i := 9) (N := some 77) (v := ?_) (a' := ?_) #[true, true, true, true, true, true, true, true, true, true, false, false, false, false, false, false, false, false, false, false, false, false, false, false, false, false, false, false, false, false, false, false, false, false, false, false, false, false, false, false, false, false, false, false, false, false, false, false, false, false, false, false, false, false, false, false, false, false] rfl rfl (any_of HT_.out (by kernel_rfl)) (fun _ _ _ h => h) (Or.inl ⟨by rfl, ?_⟩) ?_ ?_
                                    rotate_left
                                    · intro w'
                                      go_simp
                                      with_reducible rfl
                                    rotate_left
                                    · simp only [Act.put, List.setIfInBounds_toArray, List.set_cons_zero, List.set_cons_succ, i64_w, i32_w]
                                      rfl
                                    refine pure_ (i := 10) (N := some 78) (v := ?_) (a' := ?_) #[true, true, true, true, true, true, true, true, true, true, true, false, false, false, false, false, false, false, false, false, false, false, false, false, false, false, false, false, false, false, false, false, false, false, false, false, false, false, false, false, false, false, false, false, false, false, false, false, false, false, false, false, false, false, false, false, false, false] rfl rfl (any_of HT_.out (by kernel_rfl)) (fun _ _ _ h => h) (Or.inl ⟨by rfl, ?_⟩) ?_ ?_
                                    rotate_left
                                    · intro w'
                                      go_simp
                                      with_reducible rfl
                                    rotate_left
                                    · simp only [Act.put, List.setIfInBounds_toArray, List.set_cons_zero, List.set_cons_succ, i64_w, i32_w]
                                      rfl
                                    refine pure_ (i := 11) (N := some 79) (v := ?_) (a' := ?_) #[true, true, true, true, true, true, true, true, true, true, true, true, false, false, false, false, false, false, false, false, false, false, false, false, false, false, false, false, false, false, false, false, false, false, false, false, false, false, false, false, false, false, false, false, false, false, false, false, false, false, false, false, false, false, false, false, false, false] rfl rfl (any_of HT_.out (by kernel_rfl)) (fun _ _ _ h => h) (Or.inl ⟨by rfl, ?_⟩) ?_ ?_
                                    rotate_left
                                    · intro w'
                                      go_simp
                                      with_reducible rfl
                                    rotate_left
                                    · simp only [Act.put, List.setIfInBounds_toArray, List.set_cons_zero, List.set_cons_succ, i64_w, i32_w]
                                      rfl
                                    refine pure_ (i := 12) (N := some 80) (v := ?_) (a' := ?_) #[true, true, true, true, true, true, true, true, true, true, true, true, true, false, false, false, false, false, false, false, false, false, false, false, false, false, false, false, false, false, false, false, false, false, false, false, false, false, false, false, false, false, false, false, false, false, false, false, false, false, false, false, false, false, false, false, false, false] rfl rfl (any_of HT_.out (by kernel_rfl)) (fun _ _ _ h => h) (Or.inl ⟨by rfl, ?_⟩) ?_ ?_
                                    rotate_left
                                    · intro w'
                                      go_simp
                                      with_reducible rfl
                                    rotate_left
                                    · simp only [Act.put, List.setIfInBounds_toArray, List.set_cons_zero, List.set_cons_succ, i64_w, i32_w]
                                      rfl
                                    refine pure_ (i := 13) (N := some 81) (v := ?_) (a' := ?_) #[true, true, true, true, true, true, true, true, true, true, true, true, true, true, false, false, false, false, false, false, false, false, false, false, false, false, false, false, false, false, false, false, false, false, false, false, false, false, false, false, false, false, false, false, false, false, false, false, false, false, false, false, false, false, false, false, false, false] rfl rfl (any_of HT_.out (by kernel_rfl)) (fun _ _ _ h => h) (Or.inl ⟨by rfl, ?_⟩) ?_ ?_
                                    rotate_left
                                    · intro w'
                                      go_simp
                                      with_reducible rfl
                                    rotate_left
                                    · simp only [Act.put, List.setIfInBounds_toArray, List.set_cons_zero, List.set_cons_succ, i64_w, i32_w]
                                      rfl
                                    refine pure_ (i := 14) (N := some 82) (v := ?_) (a' := ?_) #[true, true, true, true, true, true, true, true, true, true, true, true, true, true, true, false, false, false, false, false, false, false, false, false, false, false, false, false, false, false, false, false, false, false, false, false, false, false, false, false, false, false, false, false, false, false, false, false, false, false, false, false, false, false, false, false, false, false] rfl rfl (any_of HT_.out (by kernel_rfl)) (fun _ _ _ h => h) (Or.inl ⟨by rfl, ?_⟩) ?_ ?_
                                    rotate_left
                                    · intro w'
                                      go_simp
                                      with_reducible rfl
                                    rotate_left
                                    · simp only [Act.put, List.setIfInBounds_toArray, List.set_cons_zero, List.set_cons_succ, i64_w, i32_w]
                                      rfl
                                    refine pure_ (i := 15) (N := some 83) (v := ?_) (a' := ?_) #[true, true, true, true, true, true, true, true, true, true, true, true, true, true, true, true, false, false, false, false, false, false, false, false, false, false, false, false, false, false, false, false, false, false, false, false, false, false, false, false, false, false, false, false, false, false, false, false, false, false, false, false, false, false, false, false, false, false] rfl rfl (any_of HT_.out (by kernel_rfl)) (fun _ _ _ h => h) (Or.inl ⟨by rfl, ?_⟩) ?_ ?_
                                    rotate_left
                                    · intro w'
                                      go_simp
                                      with_reducible rfl
                                    rotate_left
                                    · simp only [Act.put, List.setIfInBounds_toArray, List.set_cons_zero, List.set_cons_succ, i64_w, i32_w]
                                      rfl
                                    refine pure_ (i := 17) (N := some 85) (v := ?_) (a' := ?_) #[true, true, true, true, true, true, true, true, true, true, true, true, true, true, true, true, false, true, false, false, false, false, false, false, false, false, false, false, false, false, false, false, false, false, false, false, false, false, false, false, false, false, false, false, false, false, false, false, false, false, false, false, false, false, false, false, false, false] rfl rfl (any_of HT_.out (by kernel_rfl)) (fun _ _ _ h => h) (Or.inl ⟨by rfl, ?_⟩) ?_ ?_
                                    rotate_left
                                    · intro w'
                                      go_simp
                                      with_reducible rfl
                                    rotate_left
                                    · simp only [Act.put, List.setIfInBounds_toArray, List.set_cons_zero, List.set_cons_succ, i64_w, i32_w]
                                      rfl
                                    refine one_ (i := 16) (N := some 84) #[true, true, true, true, true, true, true, true, true, true, true, true, true, true, true, true, true, true, false, false, false, false, false, false, false, false, false, false, false, false, false, false, false, false, false, false, false, false, false, false, false, false, false, false, false, false, false, false, false, false, false, false, false, false, false, false, false, false] rfl rfl (one_of HT_.out (by kernel_rfl)) (by decide) (fun K hK => ?_)
                                    refine goes_ Try.func24 (by kernel_rfl) rfl #[.slice (some ad471) t463.length co24, .int .i64 (wrap64 ((wrap64 (86400 * ((rd_T47 l0_0 a1).f0))) + t468))] (by rfl) rfl rfl (by (try simp only [List.map_toArray, List.map_cons, List.map_nil]); first | done | rfl | (simp only [List.length_drop, List.length_take]; rfl)) ?_
                                    with_reducible refine (record_Sum.calls kj20 _ _ t463 (wrap64 ((wrap64 (86400 * ((rd_T47 l0_0 a1).f0))) + t468)) t472 _ ?side1 ?side2 A35.out).mono ?_
                                    (case side1 => repeat (first | exact (Kd.R_reads' HO_7.out).2.2 | (with_reducible refine Kd.C_alloc ?_ _) | (with_reducible refine Kd.C_drewN ?_ _) | (with_reducible refine Kd.C_drew ?_)))
                                    (case side2 => exact (Kd.R_reads' HO_7.out).2.1)
                                    rintro e w44 ⟨rfl, hb⟩
                                    have HS3_ := (hb.cell (World.block_lt_of_cell? _ _ (hHeld.2.2.2.1))).trans (hHeld.2.2.2.1)
                                    have HS4_ := (hb.cell (World.block_lt_of_cell? _ _ (hHeld.2.2.2.2.1))).trans (hHeld.2.2.2.2.1)
                                    have HS5_ := (hb.cell (World.block_lt_of_cell? _ _ (hHeld.2.2.2.2.2.1))).trans (hHeld.2.2.2.2.2.1)
                                    have HS6_ := (hb.cell (World.block_lt_of_cell? _ _ (hHeld.2.2.2.2.2.2.1))).trans (hHeld.2.2.2.2.2.2.1)
                                    refine ⟨_, rfl, ?_⟩
                                    have n0_ := Aside0.mk (Kd.R_below (by (with_reducible repeat (first | apply Kd.R_alloc | apply Kd.R_drewN | apply Kd.R_drew)); exact HO_7.out) hb)
                                    have n1_ := Aside0.mk (blk_below (g := gb460) (o := .cells #[.slice (some ad467) l0_0.length c0_0, .bool a0_1, .int .i64 a0_2] 24 (0, 0)) (by (with_reducible repeat (first | refine blk_drewN ?_ _ | refine blk_drew ?_ | refine blk_alloc ?_ _)); exact BK460.out) hb)
                                    have n2_ := Aside0.mk (below_step (by repeat (first | (with_reducible first | exact HB.out | apply below_alloc | apply pw_below_drewN | apply below_drew1 | refine below_set ?_ GE460.out) | exact HB.out)) hb)
                                    clear HO_7
                                    clear BK460
                                    clear HB
                                    have HO_7 := n0_
                                    have BK460 := n1_
                                    have HB := n2_
                                    clear n0_ n1_ n2_
                                    (try clear hb)
                                    (try clear hb2)
                                    (try clear hk)
                                    (try clear hi)
                                    refine hK.out _ _ ⟨(blk_cell BK460.out 0).trans rfl, (blk_cell BK460.out 1).trans rfl, (blk_cell BK460.out 2).trans rfl, HS3_, HS4_, HS5_, HS6_, ((HB.out.cell (World.block_lt_of_cell? w _ hw475_0)).trans hw475_0), ((HB.out.cell (World.block_lt_of_cell? w _ hw475_1)).trans hw475_1), ((HB.out.cell (World.block_lt_of_cell? w _ hw475_2)).trans hw475_2), ((HB.out.cell (World.block_lt_of_cell? w _ hw477_0)).trans hw477_0), ((HB.out.cell (World.block_lt_of_cell? w _ hw477_1)).trans hw477_1), ((HB.out.cell (World.block_lt_of_cell? w _ hw477_2)).trans hw477_2)⟩ (fun hHeld => ?_)
                                    clear hK K
                                    refine norm_ (a' := ?_) ?_ ?_
                                    rotate_left
                                    · show Act.put _ (some 84) _ = _
                                      simp only [Act.put, List.setIfInBounds_toArray, List.set_cons_zero, List.set_cons_succ, i64_w, i32_w]
                                      rfl
                                    refine pure_ (i := 18) (N := some 86) (v := ?_) (a' := ?_) #[true, true, true, true, true, true, true, true, true, true, true, true, true, true, true, true, true, true, true, false, false, false, false, false, false, false, false, false, false, false, false, false, false, false, false, false, false, false, false, false, false, false, false, false, false, false, false, false, false, false, false, false, false, false, false, false, false, false] rfl rfl (any_of HT_.out (by kernel_rfl)) (fun _ _ _ h => h) (Or.inl ⟨by rfl, ?_⟩) ?_ ?_
                                    rotate_left
                                    · intro w'
                                      go_simp
                                      with_reducible rfl
                                    rotate_left
                                    · simp only [Act.put, List.setIfInBounds_toArray, List.set_cons_zero, List.set_cons_succ, i64_w, i32_w]
                                      rfl
                                    refine pure_ (i := 19) (N := some 87) (v := ?_) (a' := ?_) #[true, true, true, true, true, true, true, true, true, true, true, true, true, true, true, true, true, true, true, true, false, false, false, false, false, false, false, false, false, false, false, false, false, false, false, false, false, false, false, false, false, false, false, false, false, false, false, false, false, false, false, false, false, false, false, false, false, false] rfl rfl (any_of HT_.out (by kernel_rfl)) (fun _ _ _ h => h) (Or.inl ⟨by rfl, ?_⟩) ?_ ?_
                                    rotate_left
                                    · intro w'
                                      go_simp
                                      with_reducible rfl
                                    rotate_left
                                    · simp only [Act.put, List.setIfInBounds_toArray, List.set_cons_zero, List.set_cons_succ, i64_w, i32_w]
                                      rfl
                                    refine pure_ (i := 20) (N := some 88) (v := ?_) (a' := ?_) #[true, true, true, true, true, true, true, true, true, true, true, true, true, true, true, true, true, true, true, true, true, false, false, false, false, false, false, false, false, false, false, false, false, false, false, false, false, false, false, false, false, false, false, false, false, false, false, false, false, false, false, false, false, false, false, false, false, false] rfl rfl (any_of HT_.out (by kernel_rfl)) (fun _ _ _ h => h) (Or.inl ⟨by rfl, ?_⟩) ?_ ?_
                                    rotate_left
                                    · intro w'
                                      go_simp
                                      with_reducible rfl
                                    rotate_left
                                    · simp only [Act.put, List.setIfInBounds_toArray, List.set_cons_zero, List.set_cons_succ, i64_w, i32_w]
                                      rfl
                                    refine pure_ (i := 21) (N := some 89) (v := ?_) (a' := ?_) #[true, true, true, true, true, true, true, true, true, true, true, true, true, true, true, true, true, true, true, true, true, true, false, false, false, false, false, false, false, false, false, false, false, false, false, false, false, false, false, false, false, false, false, false, false, false, false, false, false, false, false, false, false, false, false, false, false, false] rfl rfl (any_of HT_.out (by kernel_rfl)) (fun _ _ _ h => h) (Or.inl ⟨by rfl, ?_⟩) ?_ ?_
                                    rotate_left
                                    · intro w'
                                      go_simp
                                      with_reducible rfl
                                    rotate_left
                                    · simp only [Act.put, List.setIfInBounds_toArray, List.set_cons_zero, List.set_cons_succ, i64_w, i32_w]
                                      rfl
                                    refine pure_ (i := 22) (N := some 90) (v := ?_) (a' := ?_) #[true, true, true, true, true, true, true, true, true, true, true, true, true, true, true, true, true, true, true, true, true, true, true, false, false, false, false, false, false, false, false, false, false, false, false, false, false, false, false, false, false, false, false, false, false, false, false, false, false, false, false, false, false, false, false, false, false, false] rfl rfl (any_of HT_.out (by kernel_rfl)) (fun _ _ _ h => h) (Or.inl ⟨by rfl, ?_⟩) ?_ ?_
                                    rotate_left
                                    · intro w'
                                      go_simp
                                      with_reducible rfl
                                    rotate_left
                                    · simp only [Act.put, List.setIfInBounds_toArray, List.set_cons_zero, List.set_cons_succ, i64_w, i32_w]
                                      rfl
                                    refine pure_ (i := 23) (N := some 91) (v := ?_) (a' := ?_) #[true, true, true, true, true, true, true, true, true, true, true, true, true, true, true, true, true, true, true, true, true, true, true, true, false, false, false, false, false, false, false, false, false, false, false, false, false, false, false, false, false, false, false, false, false, false, false, false, false, false, false, false, false, false, false, false, false, false] rfl rfl (any_of HT_.out (by kernel_rfl)) (fun _ _ _ h => h) (Or.inl ⟨by rfl, ?_⟩) ?_ ?_
                                    rotate_left
                                    · intro w'
                                      go_simp
                                      with_reducible rfl
                                    rotate_left
                                    · simp only [Act.put, List.setIfInBounds_toArray, List.set_cons_zero, List.set_cons_succ, i64_w, i32_w]
                                      rfl
                                    refine pure_ (i := 24) (N := some 92) (v := ?_) (a' := ?_) #[true, true, true, true, true, true, true, true, true, true, true, true, true, true, true, true, true, true, true, true, true, true, true, true, true, false, false, false, false, false, false, false, false, false, false, false, false, false, false, false, false, false, false, false, false, false, false, false, false, false, false, false, false, false, false, false, false, false] rfl rfl (any_of HT_.out (by kernel_rfl)) (fun _ _ _ h => h) (Or.inl ⟨by rfl, ?_⟩) ?_ ?_
                                    rotate_left
                                    · intro w'
                                      go_simp
                                      with_reducible rfl
                                    rotate_left
                                    · simp only [Act.put, List.setIfInBounds_toArray, List.set_cons_zero, List.set_cons_succ, i64_w, i32_w]
                                      rfl
                                    refine pure_ (i := 25) (N := some 93) (v := ?_) (a' := ?_) #[true, true, true, true, true, true, true, true, true, true, true, true, true, true, true, true, true, true, true, true, true, true, true, true, true, true, false, false, false, false, false, false, false, false, false, false, false, false, false, false, false, false, false, false, false, false, false, false, false, false, false, false, false, false, false, false, false, false] rfl rfl (any_of HT_.out (by kernel_rfl)) (fun _ _ _ h => h) (Or.inl ⟨by rfl, ?_⟩) ?_ ?_
                                    rotate_left
                                    · intro w'
                                      go_simp
                                      with_reducible rfl
                                    rotate_left
                                    · simp only [Act.put, List.setIfInBounds_toArray, List.set_cons_zero, List.set_cons_succ, i64_w, i32_w]
                                      rfl
                                    refine pure_ (i := 28) (N := some 96) (v := ?_) (a' := ?_) #[true, true, true, true, true, true, true, true, true, true, true, true, true, true, true, true, true, true, true, true, true, true, true, true, true, true, false, false, true, false, false, false, false, false, false, false, false, false, false, false, false, false, false, false, false, false, false, false, false, false, false, false, false, false, false, false, false, false] rfl rfl (any_of HT_.out (by kernel_rfl)) (fun _ _ _ h => h) (Or.inl ⟨by rfl, ?_⟩) ?_ ?_
                                    rotate_left
                                    · intro w'
                                      go_simp
                                      with_reducible rfl
                                    rotate_left
                                    · simp only [Act.put, List.setIfInBounds_toArray, List.set_cons_zero, List.set_cons_succ, i64_w, i32_w]
                                      rfl
                                    refine pure_ (i := 29) (N := some 97) (v := ?_) (a' := ?_) #[true, true, true, true, true, true, true, true, true, true, true, true, true, true, true, true, true, true, true, true, true, true, true, true, true, true, false, false, true, true, false, false, false, false, false, false, false, false, false, false, false, false, false, false, false, false, false, false, false, false, false, false, false, false, false, false, false, false] rfl rfl (any_of HT_.out (by kernel_rfl)) (fun _ _ _ h => h) (Or.inl ⟨by rfl, ?_⟩) ?_ ?_
                                    rotate_left
                                    · intro w'
                                      go_simp
                                      with_reducible rfl
                                    rotate_left
                                    · simp only [Act.put, List.setIfInBounds_toArray, List.set_cons_zero, List.set_cons_succ, i64_w, i32_w]
                                      rfl
                                    refine pure_ (i := 31) (N := some 99) (v := ?_) (a' := ?_) #[true, true, true, true, true, true, true, true, true, true, true, true, true, true, true, true, true, true, true, true, true, true, true, true, true, true, false, false, true, true, false, true, false, false, false, false, false, false, false, false, false, false, false, false, false, false, false, false, false, false, false, false, false, false, false, false, false, false] rfl rfl (any_of HT_.out (by kernel_rfl)) (fun _ _ _ h => h) (Or.inl ⟨by rfl, ?_⟩) ?_ ?_
                                    rotate_left
                                    · intro w'
                                      go_simp
                                      with_reducible rfl
                                    rotate_left
                                    · simp only [Act.put, List.setIfInBounds_toArray, List.set_cons_zero, List.set_cons_succ, i64_w, i32_w]
                                      rfl
                                    refine take_ (i := 26) (N := some 94) (v := ?_) (a' := ?_) #[true, true, true, true, true, true, true, true, true, true, true, true, true, true, true, true, true, true, true, true, true, true, true, true, true, true, true, false, true, true, false, true, false, false, false, false, false, false, false, false, false, false, false, false, false, false, false, false, false, false, false, false, false, false, false, false, false, false] rfl rfl (take_ofW HT_.out HW_.out (by kernel_rfl)) (fun _ _ _ h => h) (Or.inl ⟨by rfl, ?_⟩) hHeld ?_ ?_
                                    rotate_left
                                    · rintro w' ⟨s0, s1, s2, s3, s4, s5, s6, s7, s8, s9, s10, s11, s12⟩
                                      go_simp
                                      with_reducible rfl
                                    rotate_left
                                    · simp only [Act.put, List.setIfInBounds_toArray, List.set_cons_zero, List.set_cons_succ, i64_w, i32_w]
                                      rfl
                                    refine take_ (i := 30) (N := some 98) (v := ?_) (a' := ?_) #[true, true, true, true, true, true, true, true, true, true, true, true, true, true, true, true, true, true, true, true, true, true, true, true, true, true, true, false, true, true, true, true, false, false, false, false, false, false, false, false, false, false, false, false, false, false, false, false, false, false, false, false, false, false, false, false, false, false] rfl rfl (take_ofW HT_.out HW_.out (by kernel_rfl)) (fun _ _ _ h => h) (Or.inl ⟨by rfl, ?_⟩) hHeld ?_ ?_
                                    rotate_left
                                    · rintro w' ⟨s0, s1, s2, s3, s4, s5, s6, s7, s8, s9, s10, s11, s12⟩
                                      go_simp
                                      with_reducible rfl
                                    rotate_left
                                    · simp only [Act.put, List.setIfInBounds_toArray, List.set_cons_zero, List.set_cons_succ, i64_w, i32_w]
                                      rfl
                                    refine pure_ (i := 32) (N := some 100) (v := ?_) (a' := ?_) #[true, true, true, true, true, true, true, true, true, true, true, true, true, true, true, true, true, true, true, true, true, true, true, true, true, true, true, false, true, true, true, true, true, false, false, false, false, false, false, false, false, false, false, false, false, false, false, false, false, false, false, false, false, false, false, false, false, false] rfl rfl (any_of HT_.out (by kernel_rfl)) (fun _ _ _ h => h) (Or.inl ⟨by rfl, ?_⟩) ?_ ?_
                                    rotate_left
                                    · intro w'
                                      go_simp
                                      with_reducible rfl
                                    rotate_left
                                    · simp only [Act.put, List.setIfInBounds_toArray, List.set_cons_zero, List.set_cons_succ, i64_w, i32_w]
                                      rfl
                                    refine pure_ (i := 33) (N := some 101) (v := ?_) (a' := ?_) #[true, true, true, true, true, true, true, true, true, true, true, true, true, true, true, true, true, true, true, true, true, true, true, true, true, true, true, false, true, true, true, true, true, true, false, false, false, false, false, false, false, false, false, false, false, false, false, false, false, false, false, false, false, false, false, false, false, false] rfl rfl (any_of HT_.out (by kernel_rfl)) (fun _ _ _ h => h) (Or.inl ⟨by rfl, ?_⟩) ?_ ?_
                                    rotate_left
                                    · intro w'
                                      go_simp
                                      with_reducible rfl
                                    rotate_left
                                    · simp only [Act.put, List.setIfInBounds_toArray, List.set_cons_zero, List.set_cons_succ, i64_w, i32_w]
                                      rfl
                                    refine take_ (i := 34) (N := some 102) (v := ?_) (a' := ?_) #[true, true, true, true, true, true, true, true, true, true, true, true, true, true, true, true, true, true, true, true, true, true, true, true, true, true, true, false, true, true, true, true, true, true, true, false, false, false, false, false, false, false, false, false, false, false, false, false, false, false, false, false, false, false, false, false, false, false] rfl rfl (take_ofW HT_.out HW_.out (by kernel_rfl)) (fun _ _ _ h => h) (Or.inl ⟨by rfl, ?_⟩) hHeld ?_ ?_
                                    rotate_left
                                    · rintro w' ⟨s0, s1, s2, s3, s4, s5, s6, s7, s8, s9, s10, s11, s12⟩
                                      go_simp
                                      with_reducible rfl
                                    rotate_left
                                    · simp only [Act.put, List.setIfInBounds_toArray, List.set_cons_zero, List.set_cons_succ, i64_w, i32_w]
                                      rfl
                                    refine pure_ (i := 35) (N := some 103) (v := ?_) (a' := ?_) #[true, true, true, true, true, true, true, true, true, true, true, true, true, true, true, true, true, true, true, true, true, true, true, true, true, true, true, false, true, true, true, true, true, true, true, true, false, false, false, false, false, false, false, false, false, false, false, false, false, false, false, false, false, false, false, false, false, false] rfl rfl (any_of HT_.out (by kernel_rfl)) (fun _ _ _ h => h) (Or.inl ⟨by rfl, ?_⟩) ?_ ?_
                                    rotate_left
                                    · intro w'
                                      go_simp
                                      with_reducible rfl
                                    rotate_left
                                    · simp only [Act.put, List.setIfInBounds_toArray, List.set_cons_zero, List.set_cons_succ, i64_w, i32_w]
                                      rfl
                                    refine one_ (i := 27) (N := some 95) #[true, true, true, true, true, true, true, true, true, true, true, true, true, true, true, true, true, true, true, true, true, true, true, true, true, true, true, true, true, true, true, true, true, true, true, true, false, false, false, false, false, false, false, false, false, false, false, false, false, false, false, false, false, false, false, false, false, false] rfl rfl (one_of HT_.out (by kernel_rfl)) (by decide) (fun K hK => ?_)
                                    refine goes_ Try.func24 (by kernel_rfl) rfl #[.slice (some ad471) t463.length co24, .int .i64 ((rd_T44 t463 a1).f0)] (by rfl) rfl rfl (by (try simp only [List.map_toArray, List.map_cons, List.map_nil]); first | done | rfl | (simp only [List.length_drop, List.length_take]; rfl)) ?_
                                    with_reducible refine (record_Sum.calls kj20 _ _ t463 ((rd_T44 t463 a1).f0) t474 _ ?side1 ?side2 A37.out).mono ?_
                                    (case side1 => repeat (first | exact (Kd.R_reads' HO_7.out).2.2 | (with_reducible refine Kd.C_alloc ?_ _) | (with_reducible refine Kd.C_drewN ?_ _) | (with_reducible refine Kd.C_drew ?_)))
                                    (case side2 => exact (Kd.R_reads' HO_7.out).2.1)
                                    rintro e w45 ⟨rfl, hb⟩
                                    have HS3_ := (hb.cell (World.block_lt_of_cell? _ _ (hHeld.2.2.2.1))).trans (hHeld.2.2.2.1)
                                    have HS4_ := (hb.cell (World.block_lt_of_cell? _ _ (hHeld.2.2.2.2.1))).trans (hHeld.2.2.2.2.1)
                                    have HS5_ := (hb.cell (World.block_lt_of_cell? _ _ (hHeld.2.2.2.2.2.1))).trans (hHeld.2.2.2.2.2.1)
                                    have HS6_ := (hb.cell (World.block_lt_of_cell? _ _ (hHeld.2.2.2.2.2.2.1))).trans (hHeld.2.2.2.2.2.2.1)
                                    refine ⟨_, rfl, ?_⟩
                                    have n0_ := Aside0.mk (Kd.R_below (by (with_reducible repeat (first | apply Kd.R_alloc | apply Kd.R_drewN | apply Kd.R_drew)); exact HO_7.out) hb)
                                    have n1_ := Aside0.mk (blk_below (g := gb460) (o := .cells #[.slice (some ad467) l0_0.length c0_0, .bool a0_1, .int .i64 a0_2] 24 (0, 0)) (by (with_reducible repeat (first | refine blk_drewN ?_ _ | refine blk_drew ?_ | refine blk_alloc ?_ _)); exact BK460.out) hb)
                                    have n2_ := Aside0.mk (below_step (by repeat (first | (with_reducible first | exact HB.out | apply below_alloc | apply pw_below_drewN | apply below_drew1 | refine below_set ?_ GE460.out) | exact HB.out)) hb)
                                    clear HO_7
                                    clear BK460
                                    clear HB
                                    have HO_7 := n0_
                                    have BK460 := n1_
                                    have HB := n2_
                                    clear n0_ n1_ n2_
                                    (try clear hb)
                                    (try clear hb2)
                                    (try clear hk)
                                    (try clear hi)
                                    refine hK.out _ _ ⟨(blk_cell BK460.out 0).trans rfl, (blk_cell BK460.out 1).trans rfl, (blk_cell BK460.out 2).trans rfl, HS3_, HS4_, HS5_, HS6_, ((HB.out.cell (World.block_lt_of_cell? w _ hw475_0)).trans hw475_0), ((HB.out.cell (World.block_lt_of_cell? w _ hw475_1)).trans hw475_1), ((HB.out.cell (World.block_lt_of_cell? w _ hw475_2)).trans hw475_2), ((HB.out.cell (World.block_lt_of_cell? w _ hw477_0)).trans hw477_0), ((HB.out.cell (World.block_lt_of_cell? w _ hw477_1)).trans hw477_1), ((HB.out.cell (World.block_lt_of_cell? w _ hw477_2)).trans hw477_2)⟩ (fun hHeld => ?_)
                                    clear hK K
                                    refine norm_ (a' := ?_) ?_ ?_
                                    rotate_left
                                    · show Act.put _ (some 95) _ = _
                                      simp only [Act.put, List.setIfInBounds_toArray, List.set_cons_zero, List.set_cons_succ, i64_w, i32_w]
                                      rfl
                                    refine pure_ (i := 36) (N := some 104) (v := ?_) (a' := ?_) #[true, true, true, true, true, true, true, true, true, true, true, true, true, true, true, true, true, true, true, true, true, true, true, true, true, true, true, true, true, true, true, true, true, true, true, true, true, false, false, false, false, false, false, false, false, false, false, false, false, false, false, false, false, false, false, false, false, false] rfl rfl (any_of HT_.out (by kernel_rfl)) (fun _ _ _ h => h) (Or.inl ⟨by rfl, ?_⟩) ?_ ?_
                                    rotate_left
                                    · intro w'
                                      go_simp
                                      with_reducible rfl
                                    rotate_left
                                    · simp only [Act.put, List.setIfInBounds_toArray, List.set_cons_zero, List.set_cons_succ, i64_w, i32_w]
                                      rfl
                                    refine pure_ (i := 37) (N := some 105) (v := ?_) (a' := ?_) #[true, true, true, true, true, true, true, true, true, true, true, true, true, true, true, true, true, true, true, true, true, true, true, true, true, true, true, true, true, true, true, true, true, true, true, true, true, true, false, false, false, false, false, false, false, false, false, false, false, false, false, false, false, false, false, false, false, false] rfl rfl (any_of HT_.out (by kernel_rfl)) (fun _ _ _ h => h) (Or.inl ⟨by rfl, ?_⟩) ?_ ?_
                                    rotate_left
                                    · intro w'
                                      go_simp
                                      with_reducible rfl
                                    rotate_left
                                    · simp only [Act.put, List.setIfInBounds_toArray, List.set_cons_zero, List.set_cons_succ, i64_w, i32_w]
                                      rfl
                                    refine pure_ (i := 38) (N := some 106) (v := ?_) (a' := ?_) #[true, true, true, true, true, true, true, true, true, true, true, true, true, true, true, true, true, true, true, true, true, true, true, true, true, true, true, true, true, true, true, true, true, true, true, true, true, true, true, false, false, false, false, false, false, false, false, false, false, false, false, false, false, false, false, false, false, false] rfl rfl (any_of HT_.out (by kernel_rfl)) (fun _ _ _ h => h) (Or.inl ⟨by rfl, ?_⟩) ?_ ?_
                                    rotate_left
                                    · intro w'
                                      go_simp
                                      with_reducible rfl
                                    rotate_left
                                    · simp only [Act.put, List.setIfInBounds_toArray, List.set_cons_zero, List.set_cons_succ, i64_w, i32_w]
                                      rfl
                                    refine pure_ (i := 39) (N := some 107) (v := ?_) (a' := ?_) #[true, true, true, true, true, true, true, true, true, true, true, true, true, true, true, true, true, true, true, true, true, true, true, true, true, true, true, true, true, true, true, true, true, true, true, true, true, true, true, true, false, false, false, false, false, false, false, false, false, false, false, false, false, false, false, false, false, false] rfl rfl (any_of HT_.out (by kernel_rfl)) (fun _ _ _ h => h) (Or.inl ⟨by rfl, ?_⟩) ?_ ?_
                                    rotate_left
                                    · intro w'
                                      go_simp
                                      with_reducible rfl
                                    rotate_left
                                    · simp only [Act.put, List.setIfInBounds_toArray, List.set_cons_zero, List.set_cons_succ, i64_w, i32_w]
                                      rfl
                                    refine pure_ (i := 40) (N := some 108) (v := ?_) (a' := ?_) #[true, true, true, true, true, true, true, true, true, true, true, true, true, true, true, true, true, true, true, true, true, true, true, true, true, true, true, true, true, true, true, true, true, true, true, true, true, true, true, true, true, false, false, false, false, false, false, false, false, false, false, false, false, false, false, false, false, false] rfl rfl (any_of HT_.out (by kernel_rfl)) (fun _ _ _ h => h) (Or.inl ⟨by rfl, ?_⟩) ?_ ?_
                                    rotate_left
                                    · intro w'
                                      go_simp
                                      with_reducible rfl
                                    rotate_left
                                    · simp only [Act.put, List.setIfInBounds_toArray, List.set_cons_zero, List.set_cons_succ, i64_w, i32_w]
                                      rfl
                                    refine pure_ (i := 42) (N := some 110) (v := ?_) (a' := ?_) #[true, true, true, true, true, true, true, true, true, true, true, true, true, true, true, true, true, true, true, true, true, true, true, true, true, true, true, true, true, true, true, true, true, true, true, true, true, true, true, true, true, false, true, false, false, false, false, false, false, false, false, false, false, false, false, false, false, false] rfl rfl (any_of HT_.out (by kernel_rfl)) (fun _ _ _ h => h) (Or.inl ⟨by rfl, ?_⟩) ?_ ?_
                                    rotate_left
                                    · intro w'
                                      go_simp
                                      with_reducible rfl
                                    rotate_left
                                    · simp only [Act.put, List.setIfInBounds_toArray, List.set_cons_zero, List.set_cons_succ, i64_w, i32_w]
                                      rfl
                                    refine pure_ (i := 44) (N := some 112) (v := ?_) (a' := ?_) #[true, true, true, true, true, true, true, true, true, true, true, true, true, true, true, true, true, true, true, true, true, true, true, true, true, true, true, true, true, true, true, true, true, true, true, true, true, true, true, true, true, false, true, false, true, false, false, false, false, false, false, false, false, false, false, false, false, false] rfl rfl (any_of HT_.out (by kernel_rfl)) (fun _ _ _ h => h) (Or.inl ⟨by rfl, ?_⟩) ?_ ?_
                                    rotate_left
                                    · intro w'
                                      go_simp
                                      with_reducible rfl
                                    rotate_left
                                    · simp only [Act.put, List.setIfInBounds_toArray, List.set_cons_zero, List.set_cons_succ, i64_w, i32_w]
                                      rfl
                                    refine take_ (i := 43) (N := some 111) (v := ?_) (a' := ?_) #[true, true, true, true, true, true, true, true, true, true, true, true, true, true, true, true, true, true, true, true, true, true, true, true, true, true, true, true, true, true, true, true, true, true, true, true, true, true, true, true, true, false, true, true, true, false, false, false, false, false, false, false, false, false, false, false, false, false] rfl rfl (take_ofW HT_.out HW_.out (by kernel_rfl)) (fun _ _ _ h => h) (Or.inl ⟨by rfl, ?_⟩) hHeld ?_ ?_
                                    rotate_left
                                    · rintro w' ⟨s0, s1, s2, s3, s4, s5, s6, s7, s8, s9, s10, s11, s12⟩
                                      go_simp
                                      with_reducible rfl
                                    rotate_left
                                    · simp only [Act.put, List.setIfInBounds_toArray, List.set_cons_zero, List.set_cons_succ, i64_w, i32_w]
                                      rfl
                                    refine pure_ (i := 45) (N := some 113) (v := ?_) (a' := ?_) #[true, true, true, true, true, true, true, true, true, true, true, true, true, true, true, true, true, true, true, true, true, true, true, true, true, true, true, true, true, true, true, true, true, true, true, true, true, true, true, true, true, false, true, true, true, true, false, false, false, false, false, false, false, false, false, false, false, false] rfl rfl (any_of HT_.out (by kernel_rfl)) (fun _ _ _ h => h) (Or.inl ⟨by rfl, ?_⟩) ?_ ?_
                                    rotate_left
                                    · intro w'
                                      go_simp
                                      with_reducible rfl
                                    rotate_left
                                    · simp only [Act.put, List.setIfInBounds_toArray, List.set_cons_zero, List.set_cons_succ, i64_w, i32_w]
                                      rfl
                                    refine pure_ (i := 46) (N := some 114) (v := ?_) (a' := ?_) #[true, true, true, true, true, true, true, true, true, true, true, true, true, true, true, true, true, true, true, true, true, true, true, true, true, true, true, true, true, true, true, true, true, true, true, true, true, true, true, true, true, false, true, true, true, true, true, false, false, false, false, false, false, false, false, false, false, false] rfl rfl (any_of HT_.out (by kernel_rfl)) (fun _ _ _ h => h) (Or.inl ⟨by rfl, ?_⟩) ?_ ?_
                                    rotate_left
                                    · intro w'
                                      go_simp
                                      with_reducible rfl
                                    rotate_left
                                    · simp only [Act.put, List.setIfInBounds_toArray, List.set_cons_zero, List.set_cons_succ, i64_w, i32_w]
                                      rfl
                                    refine take_ (i := 47) (N := some 115) (v := ?_) (a' := ?_) #[true, true, true, true, true, true, true, true, true, true, true, true, true, true, true, true, true, true, true, true, true, true, true, true, true, true, true, true, true, true, true, true, true, true, true, true, true, true, true, true, true, false, true, true, true, true, true, true, false, false, false, false, false, false, false, false, false, false] rfl rfl (take_ofW HT_.out HW_.out (by kernel_rfl)) (fun _ _ _ h => h) (Or.inl ⟨by rfl, ?_⟩) hHeld ?_ ?_
                                    rotate_left
                                    · rintro w' ⟨s0, s1, s2, s3, s4, s5, s6, s7, s8, s9, s10, s11, s12⟩
                                      go_simp
                                      with_reducible rfl
                                    rotate_left
                                    · simp only [Act.put, List.setIfInBounds_toArray, List.set_cons_zero, List.set_cons_succ, i64_w, i32_w]
                                      rfl
                                    refine one_ (i := 41) (N := some 109) #[true, true, true, true, true, true, true, true, true, true, true, true, true, true, true, true, true, true, true, true, true, true, true, true, true, true, true, true, true, true, true, true, true, true, true, true, true, true, true, true, true, true, true, true, true, true, true, true, false, false, false, false, false, false, false, false, false, false] rfl rfl (one_of HT_.out (by kernel_rfl)) (by decide) (fun K hK => ?_)
                                    refine goes_ Try.func26 (by kernel_rfl) rfl #[.slice (some ad471) t463.length co24, .int .i64 x11_20] (by rfl) rfl rfl (by (try simp only [List.map_toArray, List.map_cons, List.map_nil]); first | done | rfl | (simp only [List.length_drop, List.length_take]; rfl)) ?_
                                    with_reducible refine (record_Step.calls kj20 _ _ t463 x11_20 t476 _ ?side1 ?side2 A40.out).mono ?_
                                    (case side1 => repeat (first | exact (Kd.R_reads' HO_7.out).2.2 | (with_reducible refine Kd.C_alloc ?_ _) | (with_reducible refine Kd.C_drewN ?_ _) | (with_reducible refine Kd.C_drew ?_)))
                                    (case side2 => exact (Kd.R_reads' HO_7.out).2.1)
                                    rintro e w46 ⟨rfl, hb⟩
                                    have HS3_ := (hb.cell (World.block_lt_of_cell? _ _ (hHeld.2.2.2.1))).trans (hHeld.2.2.2.1)
                                    have HS4_ := (hb.cell (World.block_lt_of_cell? _ _ (hHeld.2.2.2.2.1))).trans (hHeld.2.2.2.2.1)
                                    have HS5_ := (hb.cell (World.block_lt_of_cell? _ _ (hHeld.2.2.2.2.2.1))).trans (hHeld.2.2.2.2.2.1)
                                    have HS6_ := (hb.cell (World.block_lt_of_cell? _ _ (hHeld.2.2.2.2.2.2.1))).trans (hHeld.2.2.2.2.2.2.1)
                                    refine ⟨_, rfl, ?_⟩
                                    have n0_ := Aside0.mk (Kd.R_below (by (with_reducible repeat (first | apply Kd.R_alloc | apply Kd.R_drewN | apply Kd.R_drew)); exact HO_7.out) hb)
                                    have n1_ := Aside0.mk (blk_below (g := gb460) (o := .cells #[.slice (some ad467) l0_0.length c0_0, .bool a0_1, .int .i64 a0_2] 24 (0, 0)) (by (with_reducible repeat (first | refine blk_drewN ?_ _ | refine blk_drew ?_ | refine blk_alloc ?_ _)); exact BK460.out) hb)
                                    have n2_ := Aside0.mk (below_step (by repeat (first | (with_reducible first | exact HB.out | apply below_alloc | apply pw_below_drewN | apply below_drew1 | refine below_set ?_ GE460.out) | exact HB.out)) hb)
                                    clear HO_7
                                    clear BK460
                                    clear HB
                                    have HO_7 := n0_
                                    have BK460 := n1_
                                    have HB := n2_
                                    clear n0_ n1_ n2_
                                    (try clear hb)
                                    (try clear hb2)
                                    (try clear hk)
                                    (try clear hi)
                                    refine hK.out _ _ ⟨(blk_cell BK460.out 0).trans rfl, (blk_cell BK460.out 1).trans rfl, (blk_cell BK460.out 2).trans rfl, HS3_, HS4_, HS5_, HS6_, ((HB.out.cell (World.block_lt_of_cell? w _ hw475_0)).trans hw475_0), ((HB.out.cell (World.block_lt_of_cell? w _ hw475_1)).trans hw475_1), ((HB.out.cell (World.block_lt_of_cell? w _ hw475_2)).trans hw475_2), ((HB.out.cell (World.block_lt_of_cell? w _ hw477_0)).trans hw477_0), ((HB.out.cell (World.block_lt_of_cell? w _ hw477_1)).trans hw477_1), ((HB.out.cell (World.block_lt_of_cell? w _ hw477_2)).trans hw477_2)⟩ (fun hHeld => ?_)
                                    clear hK K
                                    refine norm_ (a' := ?_) ?_ ?_
                                    rotate_left
                                    · show Act.put _ (some 109) _ = _
                                      simp only [Act.put, List.setIfInBounds_toArray, List.set_cons_zero, List.set_cons_succ, i64_w, i32_w]
                                      rfl
                                    refine pure_ (i := 48) (N := some 116) (v := ?_) (a' := ?_) #[true, true, true, true, true, true, true, true, true, true, true, true, true, true, true, true, true, true, true, true, true, true, true, true, true, true, true, true, true, true, true, true, true, true, true, true, true, true, true, true, true, true, true, true, true, true, true, true, true, false, false, false, false, false, false, false, false, false] rfl rfl (any_of HT_.out (by kernel_rfl)) (fun _ _ _ h => h) (Or.inl ⟨by rfl, ?_⟩) ?_ ?_
                                    rotate_left
                                    · intro w'
                                      go_simp
                                      with_reducible rfl
                                    rotate_left
                                    · simp only [Act.put, List.setIfInBounds_toArray, List.set_cons_zero, List.set_cons_succ, i64_w, i32_w]
                                      rfl
                                    refine pure_ (i := 49) (N := some 117) (v := ?_) (a' := ?_) #[true, true, true, true, true, true, true, true, true, true, true, true, true, true, true, true, true, true, true, true, true, true, true, true, true, true, true, true, true, true, true, true, true, true, true, true, true, true, true, true, true, true, true, true, true, true, true, true, true, true, false, false, false, false, false, false, false, false] rfl rfl (any_of HT_.out (by kernel_rfl)) (fun _ _ _ h => h) (Or.inl ⟨by rfl, ?_⟩) ?_ ?_
                                    rotate_left
                                    · intro w'
                                      go_simp
                                      with_reducible rfl
                                    rotate_left
                                    · simp only [Act.put, List.setIfInBounds_toArray, List.set_cons_zero, List.set_cons_succ, i64_w, i32_w]
                                      rfl
                                    refine pure_ (i := 50) (N := some 118) (v := ?_) (a' := ?_) #[true, true, true, true, true, true, true, true, true, true, true, true, true, true, true, true, true, true, true, true, true, true, true, true, true, true, true, true, true, true, true, true, true, true, true, true, true, true, true, true, true, true, true, true, true, true, true, true, true, true, true, false, false, false, false, false, false, false] rfl rfl (any_of HT_.out (by kernel_rfl)) (fun _ _ _ h => h) (Or.inl ⟨by rfl, ?_⟩) ?_ ?_
                                    rotate_left
                                    · intro w'
                                      go_simp
                                      with_reducible rfl
                                    rotate_left
                                    · simp only [Act.put, List.setIfInBounds_toArray, List.set_cons_zero, List.set_cons_succ, i64_w, i32_w]
                                      rfl
                                    refine pure_ (i := 51) (N := some 119) (v := ?_) (a' := ?_) #[true, true, true, true, true, true, true, true, true, true, true, true, true, true, true, true, true, true, true, true, true, true, true, true, true, true, true, true, true, true, true, true, true, true, true, true, true, true, true, true, true, true, true, true, true, true, true, true, true, true, true, true, false, false, false, false, false, false] rfl rfl (any_of HT_.out (by kernel_rfl)) (fun _ _ _ h => h) (Or.inl ⟨by rfl, ?_⟩) ?_ ?_
                                    rotate_left
                                    · intro w'
                                      go_simp
                                      with_reducible rfl
                                    rotate_left
                                    · simp only [Act.put, List.setIfInBounds_toArray, List.set_cons_zero, List.set_cons_succ, i64_w, i32_w]
                                      rfl
                                    refine pure_ (i := 52) (N := some 120) (v := ?_) (a' := ?_) #[true, true, true, true, true, true, true, true, true, true, true, true, true, true, true, true, true, true, true, true, true, true, true, true, true, true, true, true, true, true, true, true, true, true, true, true, true, true, true, true, true, true, true, true, true, true, true, true, true, true, true, true, true, false, false, false, false, false] rfl rfl (any_of HT_.out (by kernel_rfl)) (fun _ _ _ h => h) (Or.inl ⟨by rfl, ?_⟩) ?_ ?_
                                    rotate_left
                                    · intro w'
                                      go_simp
                                      with_reducible rfl
                                    rotate_left
                                    · simp only [Act.put, List.setIfInBounds_toArray, List.set_cons_zero, List.set_cons_succ, i64_w, i32_w]
                                      rfl
                                    refine pure_ (i := 53) (N := some 121) (v := ?_) (a' := ?_) #[true, true, true, true, true, true, true, true, true, true, true, true, true, true, true, true, true, true, true, true, true, true, true, true, true, true, true, true, true, true, true, true, true, true, true, true, true, true, true, true, true, true, true, true, true, true, true, true, true, true, true, true, true, true, false, false, false, false] rfl rfl (any_of HT_.out (by kernel_rfl)) (fun _ _ _ h => h) (Or.inl ⟨by rfl, ?_⟩) ?_ ?_
                                    rotate_left
                                    · intro w'
                                      go_simp
                                      with_reducible rfl
                                    rotate_left
                                    · simp only [Act.put, List.setIfInBounds_toArray, List.set_cons_zero, List.set_cons_succ, i64_w, i32_w]
                                      rfl
                                    refine one_ (i := 54) (N := some 122) #[true, true, true, true, true, true, true, true, true, true, true, true, true, true, true, true, true, true, true, true, true, true, true, true, true, true, true, true, true, true, true, true, true, true, true, true, true, true, true, true, true, true, true, true, true, true, true, true, true, true, true, true, true, true, true, false, false, false] rfl rfl (one_of HT_.out (by kernel_rfl)) (by decide) (fun K hK => ?_)
                                    refine goes_ Try.func26 (by kernel_rfl) rfl #[.slice (some ad471) t463.length co24, .int .i64 (wrap64 (x11_20 + 86400))] (by rfl) rfl rfl (by (try simp only [List.map_toArray, List.map_cons, List.map_nil]); first | done | rfl | (simp only [List.length_drop, List.length_take]; rfl)) ?_
                                    with_reducible refine (record_Step.calls kj20 _ _ t463 (wrap64 (x11_20 + 86400)) t478 _ ?side1 ?side2 A42.out).mono ?_
                                    (case side1 => repeat (first | exact (Kd.R_reads' HO_7.out).2.2 | (with_reducible refine Kd.C_alloc ?_ _) | (with_reducible refine Kd.C_drewN ?_ _) | (with_reducible refine Kd.C_drew ?_)))
                                    (case side2 => exact (Kd.R_reads' HO_7.out).2.1)
                                    rintro e w47 ⟨rfl, hb⟩
                                    have HS3_ := (hb.cell (World.block_lt_of_cell? _ _ (hHeld.2.2.2.1))).trans (hHeld.2.2.2.1)
                                    have HS4_ := (hb.cell (World.block_lt_of_cell? _ _ (hHeld.2.2.2.2.1))).trans (hHeld.2.2.2.2.1)
                                    have HS5_ := (hb.cell (World.block_lt_of_cell? _ _ (hHeld.2.2.2.2.2.1))).trans (hHeld.2.2.2.2.2.1)
                                    have HS6_ := (hb.cell (World.block_lt_of_cell? _ _ (hHeld.2.2.2.2.2.2.1))).trans (hHeld.2.2.2.2.2.2.1)
                                    refine ⟨_, rfl, ?_⟩
                                    have n0_ := Aside0.mk (Kd.R_below (by (with_reducible repeat (first | apply Kd.R_alloc | apply Kd.R_drewN | apply Kd.R_drew)); exact HO_7.out) hb)
                                    have n1_ := Aside0.mk (blk_below (g := gb460) (o := .cells #[.slice (some ad467) l0_0.length c0_0, .bool a0_1, .int .i64 a0_2] 24 (0, 0)) (by (with_reducible repeat (first | refine blk_drewN ?_ _ | refine blk_drew ?_ | refine blk_alloc ?_ _)); exact BK460.out) hb)
                                    have n2_ := Aside0.mk (below_step (by repeat (first | (with_reducible first | exact HB.out | apply below_alloc | apply pw_below_drewN | apply below_drew1 | refine below_set ?_ GE460.out) | exact HB.out)) hb)
                                    clear HO_7
                                    clear BK460
                                    clear HB
                                    have HO_7 := n0_
                                    have BK460 := n1_
                                    have HB := n2_
                                    clear n0_ n1_ n2_
                                    (try clear hb)
                                    (try clear hb2)
                                    (try clear hk)
                                    (try clear hi)
                                    refine hK.out _ _ ⟨(blk_cell BK460.out 0).trans rfl, (blk_cell BK460.out 1).trans rfl, (blk_cell BK460.out 2).trans rfl, HS3_, HS4_, HS5_, HS6_, ((HB.out.cell (World.block_lt_of_cell? w _ hw475_0)).trans hw475_0), ((HB.out.cell (World.block_lt_of_cell? w _ hw475_1)).trans hw475_1), ((HB.out.cell (World.block_lt_of_cell? w _ hw475_2)).trans hw475_2), ((HB.out.cell (World.block_lt_of_cell? w _ hw477_0)).trans hw477_0), ((HB.out.cell (World.block_lt_of_cell? w _ hw477_1)).trans hw477_1), ((HB.out.cell (World.block_lt_of_cell? w _ hw477_2)).trans hw477_2)⟩ (fun hHeld => ?_)
                                    clear hK K
                                    refine norm_ (a' := ?_) ?_ ?_
                                    rotate_left
                                    · show Act.put _ (some 122) _ = _
                                      simp only [Act.put, List.setIfInBounds_toArray, List.set_cons_zero, List.set_cons_succ, i64_w, i32_w]
                                      rfl
                                    refine pure_ (i := 55) (N := some 123) (v := ?_) (a' := ?_) #[true, true, true, true, true, true, true, true, true, true, true, true, true, true, true, true, true, true, true, true, true, true, true, true, true, true, true, true, true, true, true, true, true, true, true, true, true, true, true, true, true, true, true, true, true, true, true, true, true, true, true, true, true, true, true, true, false, false] rfl rfl (any_of HT_.out (by kernel_rfl)) (fun _ _ _ h => h) (Or.inl ⟨by rfl, ?_⟩) ?_ ?_
                                    rotate_left
                                    · intro w'
                                      go_simp
                                      with_reducible rfl
                                    rotate_left
                                    · simp only [Act.put, List.setIfInBounds_toArray, List.set_cons_zero, List.set_cons_succ, i64_w, i32_w]
                                      rfl
                                    refine pure_ (i := 56) (N := some 124) (v := ?_) (a' := ?_) #[true, true, true, true, true, true, true, true, true, true, true, true, true, true, true, true, true, true, true, true, true, true, true, true, true, true, true, true, true, true, true, true, true, true, true, true, true, true, true, true, true, true, true, true, true, true, true, true, true, true, true, true, true, true, true, true, true, false] rfl rfl (any_of HT_.out (by kernel_rfl)) (fun _ _ _ h => h) (Or.inl ⟨by rfl, ?_⟩) ?_ ?_
                                    rotate_left
                                    · intro w'
                                      go_simp
                                      with_reducible rfl
                                    rotate_left
                                    · simp only [Act.put, List.setIfInBounds_toArray, List.set_cons_zero, List.set_cons_succ, i64_w, i32_w]
                                      rfl
                                    refine pure_ (i := 57) (N := some 4) (v := ?_) (a' := ?_) #[true, true, true, true, true, true, true, true, true, true, true, true, true, true, true, true, true, true, true, true, true, true, true, true, true, true, true, true, true, true, true, true, true, true, true, true, true, true, true, true, true, true, true, true, true, true, true, true, true, true, true, true, true, true, true, true, true, true] rfl rfl (any_of HT_.out (by kernel_rfl)) (fun _ _ _ h => h) (Or.inl ⟨by rfl, ?_⟩) ?_ ?_
                                    rotate_left
                                    · intro w'
                                      go_simp
                                      with_reducible rfl
                                    rotate_left
                                    · simp only [Act.put, List.setIfInBounds_toArray, List.set_cons_zero, List.set_cons_succ, i64_w, i32_w]
                                      rfl
                                    refine done_ (done_of HT_.out (by kernel_rfl)) ?_
                                    try go_wp2
                                    go_ret
                                    exact ⟨by first | rfl | (simp [errW_none, errW_some] <;> rfl) | (simp [*, errW_none, errW_some] <;> rfl), by repeat (first | (with_reducible first | exact HB.out | apply below_alloc | apply pw_below_drewN | apply below_drew1 | refine below_set ?_ GE460.out) | exact HB.out)⟩
                                  · rw [if_neg c41] at H
                                    have c41b0 : (t476 == ((rd_T47 l0_0 a1).f1)) = false := beq_eq_false_iff_ne.mpr c41
                                    have c41b1 : (t476 != ((rd_T47 l0_0 a1).f1)) = true := bne_iff_ne.mpr c41
                                    exact absurd H (by simp)
                                · rw [if_neg c39] at H
                                  have c39b0 : (t474 == (wrap64 (t468 + ((rd_T47 l0_0 a1).f1)))) = false := beq_eq_false_iff_ne.mpr c39
                                  have c39b1 : (t474 != (wrap64 (t468 + ((rd_T47 l0_0 a1).f1)))) = true := bne_iff_ne.mpr c39
                                  exact absurd H (by simp)
                              · rw [if_neg c38] at H
                                exact absurd H (by simp)
                            · rw [if_neg c36] at H
                              have c36b0 : (t472 == t468) = false := beq_eq_false_iff_ne.mpr c36
                              have c36b1 : (t472 != t468) = true := bne_iff_ne.mpr c36
                              exact absurd H (by simp)
                          · rw [if_neg c34] at H
                            have c34b0 : (((rd_T44 t463 a1).f0) == x11_20) = false := beq_eq_false_iff_ne.mpr c34
                            have c34b1 : (((rd_T44 t463 a1).f0) != x11_20) = true := bne_iff_ne.mpr c34
                            exact absurd H (by simp)
                        · rw [if_neg c33] at H
                          exact absurd H (by simp)
                      · rw [if_neg c32] at H
                        exact absurd H (by simp)
                    · replace c31 := Bool.eq_false_iff.mpr c31
                      subst c31
                      have H1 : (none) = some r := by rw [if_neg (show ¬ (false = true) by decide)] at H; exact H
                      clear H
                      have H := H1
                      clear H1
                      exact absurd H (by simp)
              · rw [if_neg c18] at H
                exact absurd H (by simp)
            · rw [if_neg c17] at H
              exact absurd H (by simp)
        · replace c15 := Bool.eq_false_iff.mpr c15
          subst c15
          have H1 : (some t461) = some r := by rw [if_neg (show ¬ (false = true) by decide)] at H; exact H
          clear H
          have H := H1
          clear H1
          obtain rfl := Option.some.inj H
          have hcz48_0 : wc.cell? ⟨gb460, 0, none⟩ = some (.slice A0_0 l0_0.length c0_0) := (blk_cell BK460.out 0).trans rfl
          have hcz48_1 : wc.cell? ⟨gb460, 1, none⟩ = some (.bool a0_1) := (blk_cell BK460.out 1).trans rfl
          have hcz48_2 : wc.cell? ⟨gb460, 2, none⟩ = some (.int .i64 a0_2) := (blk_cell BK460.out 2).trans rfl
          have hfz48_0 := blk_frozen BK460.out 0
          have hfz48_1 := blk_frozen BK460.out 1
          have hfz48_2 := blk_frozen BK460.out 2
          go_wp2_with (first | ((with_reducible refine gate_callee (f := 11) rfl ?_); refine goesL_ (some 31) rfl rfl Try.func11 (by kernel_rfl) rfl #[.agg #[.slice A0_0 l0_0.length c0_0, .bool a0_1, .int .i64 a0_2]] rfl (by (try simp only [List.map_toArray, List.map_cons, List.map_nil]); first | done | rfl | (simp only [List.length_drop, List.length_take]; rfl)) ?_; (with_reducible refine (record_Records.calls kj4 _ _ l0_0 a0_1 a0_2 t463 false _ ?side1 ?side2 A14.out).mono ?_); (case side1 => repeat (first | exact (Kd.C_below HR0_0.out HB.out) | (with_reducible refine Kd.C_alloc ?_ _) | (with_reducible refine Kd.C_drewN ?_ _) | (with_reducible refine Kd.C_drew ?_))); (case side2 => exact HC0_0.out); rintro e w49 ⟨v464, rfl, ho0, hb⟩; refine ⟨_, rfl, ?_⟩; have n0_ := Aside0.mk (Kd.R_lower ho0 (below_size (by repeat (first | (with_reducible first | exact HB.out | apply below_alloc | apply pw_below_drewN | apply below_drew1 | refine below_set ?_ GE460.out) | exact HB.out)))); have n1_ := Aside0.mk (blk_below (g := gb460) (o := .cells #[.slice A0_0 l0_0.length c0_0, .bool a0_1, .int .i64 a0_2] 24 (0, 0)) (by (with_reducible repeat (first | refine blk_drewN ?_ _ | refine blk_drew ?_ | refine blk_alloc ?_ _)); exact BK460.out) hb); have n2_ := Aside0.mk (below_step (by repeat (first | (with_reducible first | exact HB.out | apply below_alloc | apply pw_below_drewN | apply below_drew1 | refine below_set ?_ GE460.out) | exact HB.out)) hb); clear BK460; clear HB; have HO465 := n0_; have BK460 := n1_; have HB := n2_; clear n0_ n1_ n2_; (try clear hb); (try clear hb2); (try clear hk); (try clear hi); (try clear ho0)))
          go_ret
          exact ⟨by first | rfl | (simp [errW_none, errW_some] <;> rfl) | (simp [*, errW_none, errW_some] <;> rfl), by repeat (first | (with_reducible first | exact HB.out | apply below_alloc | apply pw_below_drewN | apply below_drew1 | refine below_set ?_ GE460.out) | exact HB.out)⟩

end Go.Proofs.Ytmnkfafnfjpliaa.PAll
