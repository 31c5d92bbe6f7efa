-- Written for this claim by wip/tools of this repo (after the kit's print; own contracts laid in).
import Derived.Test.YthoigncoojcanaaPAllx0
import Derived.Test.YthoigncoojcanaaPAllx1
import Derived.Test.YthoigncoojcanaaPAllx5
import Derived.Test.YthoigncoojcanaaPAllx6
import Derived.Test.YthoigncoojcanaaPAllx8
import Derived.Test.YthoigncoojcanaaPAllx10
import Derived.Test.YthoigncoojcanaaPAllx15
namespace Go.Proofs.Ythoigncoojcanaa.PAll
open Go.RowKit Go.Proofs.YthoigncoojcanaaW.PrintWords Go.Proofs.YthoigncoojcanaaW.PrintLast Go.Proofs.YthoigncoojcanaaW.PrintMore
attribute [local go_sem] max2_int min2_int max_two min_two max_three min_three max_four min_four   -- for this text's walks alone
set_option linter.unusedVariables false
set_option linter.unusedSimpArgs false

attribute [local go_sem high] eqA24
/-! ### epactlaw25_SmearFloor: function 8 -/
def epactlaw25_SmearFloor.j0 : Nat → List (S53) → Bool → Int → Int → Bool → Int → Int → Int → Int → Option (Bool)
  | 0, _, _, _, _, _, _, _, _, _ => none
  | k + 1, x0, x5, x8, x9, x41, x393000, x393001, x398000, x398001 => if x41 = true then (some x5) else ((smear_Smear.f k x0 x8 0).bind fun bt401 => ((posix_From.f k x0 x8).bind fun bt405 => (if x5 = true then (if bt401.2.2 = 0 then (if (bt401.1 == bt405.1 && (bt401.2.1 == 0)) = true then (if (Int.tmod bt405.1 86400) = 43200 then (if (wrap64 ((wrap64 ((wrap64 (x398000 - bt405.1)) * 1000000000)) + x398001)) ≥ 0 then (if (wrap64 ((wrap64 ((wrap64 (x393000 - x8)) * 1000000000)) + x393001)) ≥ 0 then ((wide_Less.f (wrap64 ((wrap64 ((wrap64 (x393000 - x8)) * 1000000000)) + x393001)) 86400 (wrap64 ((wrap64 ((wrap64 (x398000 - bt405.1)) * 1000000000)) + x398001)) x9).bind fun t407 => (if t407 = true then (none) else ((wide_Less.f (wrap64 ((wrap64 ((wrap64 (x393000 - x8)) * 1000000000)) + x393001)) 86400 (wrap64 ((wrap64 ((wrap64 ((wrap64 (x398000 - bt405.1)) * 1000000000)) + x398001)) + 1)) x9).bind fun t408 => (if t408 = true then (if x9 = 86401 then (some true) else (some (x9 == 86399))) else (none))))) else (none)) else (none)) else (none)) else (none)) else (none)) else (none))))
def epactlaw25_SmearFloor.f (k : Nat) (l0 : List (S53)) (a1_0 : Int) (a1_1 : Int) : Option (Bool) := (epactlaw25_small.f k).bind fun t393 => (if (l0.length : Int) > 150 then (some t393) else ((smear_Smear.f k l0 a1_0 a1_1).bind fun bt394 => ((smear_Window.f k l0 a1_0).bind fun bt398 => (if bt394.2.2 = 0 then (epactlaw25_SmearFloor.j0 k l0 t393 bt398.1 bt398.2.1 (!bt398.2.2) a1_0 a1_1 bt394.1 bt394.2.1) else (epactlaw25_SmearFloor.j0 k l0 t393 bt398.1 bt398.2.1 true a1_0 a1_1 bt394.1 bt394.2.1)))))
theorem epactlaw25_SmearFloor.mono_l : ∀ k, (∀ y0 y1 y2 y3 y4 y5 y6 y7 y8, LeO (epactlaw25_SmearFloor.j0 k y0 y1 y2 y3 y4 y5 y6 y7 y8) (epactlaw25_SmearFloor.j0 (k + 1) y0 y1 y2 y3 y4 y5 y6 y7 y8))
  | 0 => fun _ _ _ _ _ _ _ _ _ r h => by simp [epactlaw25_SmearFloor.j0] at h
  | k + 1 => by
    have ih0 := epactlaw25_SmearFloor.mono_l k
    · intro y0 y1 y2 y3 y4 y5 y6 y7 y8
      unfold epactlaw25_SmearFloor.j0
      repeat' first
      | (with_reducible exact ih0 _ _ _ _ _ _ _ _ _)
      | (with_reducible exact epactlaw25_small.mono _)
      | (with_reducible exact posix_From.mono _ _ _)
      | (with_reducible exact smear_Smear.mono _ _ _ _)
      | (with_reducible exact smear_Window.mono _ _ _)
      | (with_reducible exact LeO.refl _)
      | (with_reducible exact LeO.none _)
      | (with_reducible refine LeO.ite ?_ ?_)
      | (with_reducible refine LeO.bind ?_ (fun _ => ?_))
      | exact ih0 _ _ _ _ _ _ _ _ _
      | exact epactlaw25_small.mono _
      | exact posix_From.mono _ _ _
      | exact smear_Smear.mono _ _ _ _
      | exact smear_Window.mono _ _ _
      | exact LeO.none _
      | refine LeO.ite ?_ ?_
      | refine LeO.bind ?_ (fun _ => ?_)
theorem epactlaw25_SmearFloor.mono : ∀ a0 a1 a2 k, LeO (epactlaw25_SmearFloor.f k a0 a1 a2) (epactlaw25_SmearFloor.f (k + 1) a0 a1 a2) := by
  intro a0 a1 a2 k
  have ih0 := epactlaw25_SmearFloor.mono_l k
  unfold epactlaw25_SmearFloor.f
  repeat' first
      | (with_reducible exact ih0 _ _ _ _ _ _ _ _ _)
      | (with_reducible exact epactlaw25_small.mono _)
      | (with_reducible exact posix_From.mono _ _ _)
      | (with_reducible exact smear_Smear.mono _ _ _ _)
      | (with_reducible exact smear_Window.mono _ _ _)
      | (with_reducible exact LeO.refl _)
      | (with_reducible exact LeO.none _)
      | (with_reducible refine LeO.ite ?_ ?_)
      | (with_reducible refine LeO.bind ?_ (fun _ => ?_))
      | exact ih0 _ _ _ _ _ _ _ _ _
      | exact epactlaw25_small.mono _
      | exact posix_From.mono _ _ _
      | exact smear_Smear.mono _ _ _ _
      | exact smear_Window.mono _ _ _
      | exact LeO.none _
      | refine LeO.ite ?_ ?_
      | refine LeO.bind ?_ (fun _ => ?_)
set_option maxHeartbeats 8000000 in
set_option maxRecDepth 100000 in
theorem epactlaw25_SmearFloor.calls (k : Nat) (A0 : Option Addr) (c0 : Nat) (l0 : List (S53)) (a1_0 : Int) (a1_1 : Int) (r : Bool) (w : World) (hr0 : Kd.C k53 w A0 l0.length l0) (hc0 : l0.length ≤ c0) (h : epactlaw25_SmearFloor.f k l0 a1_0 a1_1 = some r) :
    Calls Try.prog 8 #[.slice A0 l0.length c0, .agg #[.int .i64 a1_0, .int .i64 a1_1]] w fun e w' => e = .returned (.bool r) ∧ Below w.heap.size w w' := by
  have hu24 := Try.underlying24
  have HR0 := Aside0.mk hr0
  have HC0 := Aside0.mk hc0
  clear hr0 hc0
  have HB := Aside0.mk (Below.refl w.heap.size w)
  have H : ((epactlaw25_small.f k).bind fun t393 => (if (l0.length : Int) > 150 then (some t393) else ((smear_Smear.f k l0 a1_0 a1_1).bind fun bt394 => ((smear_Window.f k l0 a1_0).bind fun bt398 => (if bt394.2.2 = 0 then (epactlaw25_SmearFloor.j0 k l0 t393 bt398.1 bt398.2.1 (!bt398.2.2) a1_0 a1_1 bt394.1 bt394.2.1) else (epactlaw25_SmearFloor.j0 k l0 t393 bt398.1 bt398.2.1 true a1_0 a1_1 bt394.1 bt394.2.1)))))) = some r := h
  clear h
  replace H := Option.bind_eq_some_iff.mp H
  obtain ⟨t393, A30, H⟩ := H
  replace H : (if (l0.length : Int) > 150 then (some t393) else ((smear_Smear.f k l0 a1_0 a1_1).bind fun bt394 => ((smear_Window.f k l0 a1_0).bind fun bt398 => (if bt394.2.2 = 0 then (epactlaw25_SmearFloor.j0 k l0 t393 bt398.1 bt398.2.1 (!bt398.2.2) a1_0 a1_1 bt394.1 bt394.2.1) else (epactlaw25_SmearFloor.j0 k l0 t393 bt398.1 bt398.2.1 true a1_0 a1_1 bt394.1 bt394.2.1))))) = some r := H
  have A3 := Aside0.mk A30
  clear A30
  by_cases c4 : (l0.length : Int) > 150
  · rw [if_pos c4] at H
    have c4b0 : decide (150 < (l0.length : Int)) = true := decide_eq_true c4
    have c4b1 : decide (150 < l0.length) = true := decide_eq_true (by omega)
    clear c4
    obtain rfl := Option.some.inj H
    go_enter Try.func8, Try.ntmps8
    go_wp2_with (first | ((with_reducible refine gate_dst (N := 3) rfl ?_); refine box_event ?hg (N := 3) ?hd (cs := #[.int .i64 a1_0, .int .i64 a1_1]) (t := 24) ?hr ?_; (case hd => rfl); (case hg => rfl); (case hr => first | (go_simp; done) | (go_simp; rfl)); intro gb392 hg w5 hbox hb; have n0_ := Aside0.mk (below_step (by repeat (first | (with_reducible first | exact HB.out | apply below_alloc | apply pw_below_drewN | apply below_drew1) | exact HB.out)) hb); have n1_ := Aside0.mk (hbox); have n2_ := Aside0.mk ((by rw [hg]; exact (below_size (by repeat (first | (with_reducible first | exact HB.out | apply below_alloc | apply pw_below_drewN | apply below_drew1) | exact HB.out))) : w.heap.size ≤ gb392)); have n3_ := Aside0.mk ((by rw [hg]; exact (below_size (by repeat (first | (with_reducible first | exact HB.out | apply below_alloc | apply pw_below_drewN | apply below_drew1) | exact HB.out))) : w.heap.size ≤ gb392)); clear HB; have HB := n0_; have BK392 := n1_; have GW392 := n2_; have GE392 := n3_; clear n0_ n1_ n2_ n3_; clear hb hbox hg) | ((with_reducible refine gate_callee (f := 10) rfl ?_); refine goesL_ (some 17) rfl rfl Try.func10 (by kernel_rfl) rfl #[] rfl (by (try simp only [List.map_toArray, List.map_cons, List.map_nil]); first | done | rfl | (simp only [List.length_drop, List.length_take]; rfl)) ?_; (with_reducible refine (epactlaw25_small.calls k  t393 _ A3.out).mono ?_); rintro e w6 ⟨rfl, hb⟩; refine ⟨_, rfl, ?_⟩; have n0_ := Aside0.mk (blk_below (g := gb392) (o := .cells #[.int .i64 a1_0, .int .i64 a1_1] 24 (0, 0)) (by (with_reducible repeat (first | refine blk_drewN ?_ _ | refine blk_drew ?_ | refine blk_alloc ?_ _)); exact BK392.out) hb); have n1_ := Aside0.mk (below_step (by repeat (first | (with_reducible first | exact HB.out | apply below_alloc | apply pw_below_drewN | apply below_drew1 | refine below_set ?_ GE392.out) | exact HB.out)) hb); clear BK392; clear HB; have BK392 := n0_; have HB := n1_; clear n0_ n1_; (try clear hb); (try clear hb2); (try clear hk); (try clear hi)))
    go_ret
    exact ⟨by first | rfl | (simp [errW_none, errW_some] <;> rfl) | (simp [*, errW_none, errW_some] <;> rfl), by repeat (first | (with_reducible first | exact HB.out | apply below_alloc | apply pw_below_drewN | apply below_drew1 | refine below_set ?_ GE392.out) | exact HB.out)⟩
  · rw [if_neg c4] at H
    have c4b0 : decide (150 < (l0.length : Int)) = false := decide_eq_false c4
    have c4b1 : decide (150 < l0.length) = false := decide_eq_false (by omega)
    clear c4
    replace H := Option.bind_eq_some_iff.mp H
    obtain ⟨⟨t394, t395, t396⟩, A70, H⟩ := H
    replace H : ((smear_Window.f k l0 a1_0).bind fun bt398 => (if t396 = 0 then (epactlaw25_SmearFloor.j0 k l0 t393 bt398.1 bt398.2.1 (!bt398.2.2) a1_0 a1_1 t394 t395) else (epactlaw25_SmearFloor.j0 k l0 t393 bt398.1 bt398.2.1 true a1_0 a1_1 t394 t395))) = some r := H
    have A7 := Aside0.mk A70
    clear A70
    replace H := Option.bind_eq_some_iff.mp H
    obtain ⟨⟨t398, t399, t400⟩, A80, H⟩ := H
    replace H : (if t396 = 0 then (epactlaw25_SmearFloor.j0 k l0 t393 t398 t399 (!t400) a1_0 a1_1 t394 t395) else (epactlaw25_SmearFloor.j0 k l0 t393 t398 t399 true a1_0 a1_1 t394 t395)) = some r := H
    have A8 := Aside0.mk A80
    clear A80
    have HC9 := Aside0.mk H
    clear H
    go_enter Try.func8, Try.ntmps8
    go_upto_region 6 with (first | ((with_reducible refine gate_dst (N := 3) rfl ?_); refine box_event ?hg (N := 3) ?hd (cs := #[.int .i64 a1_0, .int .i64 a1_1]) (t := 24) ?hr ?_; (case hd => rfl); (case hg => rfl); (case hr => first | (go_simp; done) | (go_simp; rfl)); intro gb392 hg w10 hbox hb; have n0_ := Aside0.mk (below_step (by repeat (first | (with_reducible first | exact HB.out | apply below_alloc | apply pw_below_drewN | apply below_drew1) | exact HB.out)) hb); have n1_ := Aside0.mk (hbox); have n2_ := Aside0.mk ((by rw [hg]; exact (below_size (by repeat (first | (with_reducible first | exact HB.out | apply below_alloc | apply pw_below_drewN | apply below_drew1) | exact HB.out))) : w.heap.size ≤ gb392)); have n3_ := Aside0.mk ((by rw [hg]; exact (below_size (by repeat (first | (with_reducible first | exact HB.out | apply below_alloc | apply pw_below_drewN | apply below_drew1) | exact HB.out))) : w.heap.size ≤ gb392)); clear HB; have HB := n0_; have BK392 := n1_; have GW392 := n2_; have GE392 := n3_; clear n0_ n1_ n2_ n3_; clear hb hbox hg) | ((with_reducible refine gate_callee (f := 10) rfl ?_); refine goesL_ (some 17) rfl rfl Try.func10 (by kernel_rfl) rfl #[] rfl (by (try simp only [List.map_toArray, List.map_cons, List.map_nil]); first | done | rfl | (simp only [List.length_drop, List.length_take]; rfl)) ?_; (with_reducible refine (epactlaw25_small.calls k  t393 _ A3.out).mono ?_); rintro e w11 ⟨rfl, hb⟩; refine ⟨_, rfl, ?_⟩; have n0_ := Aside0.mk (blk_below (g := gb392) (o := .cells #[.int .i64 a1_0, .int .i64 a1_1] 24 (0, 0)) (by (with_reducible repeat (first | refine blk_drewN ?_ _ | refine blk_drew ?_ | refine blk_alloc ?_ _)); exact BK392.out) hb); have n1_ := Aside0.mk (below_step (by repeat (first | (with_reducible first | exact HB.out | apply below_alloc | apply pw_below_drewN | apply below_drew1 | refine below_set ?_ GE392.out) | exact HB.out)) hb); clear BK392; clear HB; have BK392 := n0_; have HB := n1_; clear n0_ n1_; (try clear hb); (try clear hb2); (try clear hk); (try clear hi); have hcz12_0 : w11.cell? ⟨gb392, 0, none⟩ = some (.int .i64 a1_0) := (blk_cell BK392.out 0).trans rfl; have hcz12_1 : w11.cell? ⟨gb392, 1, none⟩ = some (.int .i64 a1_1) := (blk_cell BK392.out 1).trans rfl; have hfz12_0 := blk_frozen BK392.out 0; have hfz12_1 := blk_frozen BK392.out 1) | ((with_reducible refine gate_callee (f := 13) rfl ?_); refine goesL_ (some 25) rfl rfl Try.func13 (by kernel_rfl) rfl #[.slice A0 l0.length c0, .agg #[.int .i64 a1_0, .int .i64 a1_1]] rfl (by (try simp only [List.map_toArray, List.map_cons, List.map_nil]); first | done | rfl | (simp only [List.length_drop, List.length_take]; rfl)) ?_; (with_reducible refine (smear_Smear.calls k _ _ l0 a1_0 a1_1 t394 t395 t396 _ ?side1 ?side2 A7.out).mono ?_); (case side1 => repeat (first | exact (Kd.C_below HR0.out HB.out) | (with_reducible refine Kd.C_alloc ?_ _) | (with_reducible refine Kd.C_drewN ?_ _) | (with_reducible refine Kd.C_drew ?_))); (case side2 => exact HC0.out); rintro e w13 ⟨rfl, hb⟩; refine ⟨_, rfl, ?_⟩; have n0_ := Aside0.mk (blk_below (g := gb392) (o := .cells #[.int .i64 a1_0, .int .i64 a1_1] 24 (0, 0)) (by (with_reducible repeat (first | refine blk_drewN ?_ _ | refine blk_drew ?_ | refine blk_alloc ?_ _)); exact BK392.out) hb); have n1_ := Aside0.mk (below_step (by repeat (first | (with_reducible first | exact HB.out | apply below_alloc | apply pw_below_drewN | apply below_drew1 | refine below_set ?_ GE392.out) | exact HB.out)) hb); clear BK392; clear HB; have BK392 := n0_; have HB := n1_; clear n0_ n1_; (try clear hb); (try clear hb2); (try clear hk); (try clear hi)) | ((with_reducible refine gate_dst (N := 6) rfl ?_); refine box_event ?hg (N := 6) ?hd (cs := #[.int .i64 0, .int .i64 0]) (t := 24) ?hr ?_; (case hd => rfl); (case hg => rfl); (case hr => first | (go_simp; done) | (go_simp; rfl)); intro gb397 hg w14 hbox hb; have n0_ := Aside0.mk (blk_below (g := gb392) (o := .cells #[.int .i64 a1_0, .int .i64 a1_1] 24 (0, 0)) (by (with_reducible repeat (first | refine blk_drewN ?_ _ | refine blk_drew ?_ | refine blk_alloc ?_ _)); exact BK392.out) hb); have n1_ := Aside0.mk (below_step (by repeat (first | (with_reducible first | exact HB.out | apply below_alloc | apply pw_below_drewN | apply below_drew1 | refine below_set ?_ GE392.out) | exact HB.out)) hb); have n2_ := Aside0.mk (hbox); have n3_ := Aside0.mk ((by rw [hg]; exact (below_size (by repeat (first | (with_reducible first | exact HB.out | apply below_alloc | apply pw_below_drewN | apply below_drew1 | refine below_set ?_ GE392.out) | exact HB.out))) : w.heap.size ≤ gb397)); have n4_ := Aside0.mk ((by rw [hg]; exact (below_size (by repeat (first | (with_reducible first | exact HB.out | apply below_alloc | apply pw_below_drewN | apply below_drew1 | refine below_set ?_ GE392.out) | exact HB.out))) : w.heap.size ≤ gb397)); have n5_ := Aside0.mk ((by rw [hg]; exact Nat.ne_of_lt (blk_lt (g := gb392) (o := .cells #[.int .i64 a1_0, .int .i64 a1_1] 24 (0, 0)) (by (with_reducible repeat (first | refine blk_drewN ?_ _ | refine blk_drew ?_ | refine blk_alloc ?_ _)); exact BK392.out)) : gb392 ≠ gb397)); have n6_ := Aside0.mk ((by rw [hg]; exact Nat.ne_of_gt (blk_lt (g := gb392) (o := .cells #[.int .i64 a1_0, .int .i64 a1_1] 24 (0, 0)) (by (with_reducible repeat (first | refine blk_drewN ?_ _ | refine blk_drew ?_ | refine blk_alloc ?_ _)); exact BK392.out)) : gb397 ≠ gb392)); clear BK392; clear HB; have BK392 := n0_; have HB := n1_; have BK397 := n2_; have GW397 := n3_; have GE397 := n4_; have NB392_397 := n5_; have NB397_392 := n6_; clear n0_ n1_ n2_ n3_ n4_ n5_ n6_; clear hb hbox hg; have hnb15 := NB397_392.out; have hnc15 := NB392_397.out; have hcz16_0 : w14.cell? ⟨gb397, 0, none⟩ = some (.int .i64 0) := (blk_cell BK397.out 0).trans rfl; have hcz16_1 : w14.cell? ⟨gb397, 1, none⟩ = some (.int .i64 0) := (blk_cell BK397.out 1).trans rfl; have hfz16_0 := blk_frozen BK397.out 0; have hfz16_1 := blk_frozen BK397.out 1; have hcz17_0 : w14.cell? ⟨gb392, 0, none⟩ = some (.int .i64 a1_0) := (blk_cell BK392.out 0).trans rfl; have hcz17_1 : w14.cell? ⟨gb392, 1, none⟩ = some (.int .i64 a1_1) := (blk_cell BK392.out 1).trans rfl; have hfz17_0 := blk_frozen BK392.out 0; have hfz17_1 := blk_frozen BK392.out 1) | ((with_reducible refine gate_callee (f := 11) rfl ?_); refine goesL_ (some 32) rfl rfl Try.func11 (by kernel_rfl) rfl #[.slice A0 l0.length c0, .int .i64 a1_0] rfl (by (try simp only [List.map_toArray, List.map_cons, List.map_nil]); first | done | rfl | (simp only [List.length_drop, List.length_take]; rfl)) ?_; (with_reducible refine (smear_Window.calls k _ _ l0 a1_0 t398 t399 t400 _ ?side1 ?side2 A8.out).mono ?_); (case side1 => exact Kd.C_below HR0.out (by repeat (first | (with_reducible first | exact HB.out | apply below_alloc | apply pw_below_drewN | apply below_drew1 | refine below_set ?_ GE392.out | refine below_set ?_ GE397.out) | exact HB.out))); (case side2 => exact HC0.out); rintro e w18 ⟨rfl, hb⟩; refine ⟨_, rfl, ?_⟩; have n0_ := Aside0.mk (blk_below (g := gb392) (o := .cells #[.int .i64 a1_0, .int .i64 a1_1] 24 (0, 0)) (by (with_reducible repeat (first | refine blk_drewN ?_ _ | refine blk_drew ?_ | refine blk_alloc ?_ _)); refine blk_far ?_ NB392_397.out _; (with_reducible repeat (first | refine blk_drewN ?_ _ | refine blk_drew ?_ | refine blk_alloc ?_ _)); refine blk_far ?_ NB392_397.out _; (with_reducible repeat (first | refine blk_drewN ?_ _ | refine blk_drew ?_ | refine blk_alloc ?_ _)); exact BK392.out) hb); have n1_ := Aside0.mk (blk_below (g := gb397) (o := .cells #[.int .i64 t394, .int .i64 t395] 24 (0, 0)) (by (with_reducible repeat (first | refine blk_drewN ?_ _ | refine blk_drew ?_ | refine blk_alloc ?_ _)); refine blk_put (cs := #[.int .i64 t394, .int .i64 0]) ?_ 1 _ rfl; (with_reducible repeat (first | refine blk_drewN ?_ _ | refine blk_drew ?_ | refine blk_alloc ?_ _)); refine blk_put (cs := #[.int .i64 0, .int .i64 0]) ?_ 0 _ rfl; (with_reducible repeat (first | refine blk_drewN ?_ _ | refine blk_drew ?_ | refine blk_alloc ?_ _)); exact BK397.out) hb); have n2_ := Aside0.mk (below_step (by repeat (first | (with_reducible first | exact HB.out | apply below_alloc | apply pw_below_drewN | apply below_drew1 | refine below_set ?_ GE392.out | refine below_set ?_ GE397.out) | exact HB.out)) hb); clear BK392; clear BK397; clear HB; have BK392 := n0_; have BK397 := n1_; have HB := n2_; clear n0_ n1_ n2_; (try clear hb); (try clear hb2); (try clear hk); (try clear hi)))
    (try simp only [Act.put, List.setIfInBounds_toArray, List.set_cons_zero, List.set_cons_succ])
    go_cut [41] (fun v41 wc => ∃ (kq : Nat) (x41_8 : Bool), v41 = .bool x41_8 ∧ Aside0 (epactlaw25_SmearFloor.j0 kq l0 t393 t398 t399 x41_8 a1_0 a1_1 t394 t395 = some r) ∧ Aside0 (kq ≤ k) ∧ Aside0 (wc.heap[gb392]? = some (.cells #[.int .i64 a1_0, .int .i64 a1_1] 24 (0, 0))) ∧ Aside0 (wc.heap[gb397]? = some (.cells #[.int .i64 t394, .int .i64 t395] 24 (0, 0))) ∧ Aside0 (Below w.heap.size w wc))
    case first =>
      have H := HC9.out
      clear HC9
      by_cases c19 : t396 = 0
      · rw [if_pos c19] at H
        have c19b0 : (t396 == 0) = true := beq_iff_eq.mpr c19
        have c19b1 : (t396 != 0) = false := bne_eq_false_iff_eq.mpr c19
        clear c19
        (first | rw [c19b0] | (simp only [i64_w, i32_w]; rw [c19b0]) | skip)
        have H' := Aside0.mk H
        clear H
        go_wp2
        go_meet
        case rel => exact ⟨_, (!t400), (by first | rfl | (simp; done) | (simp [*]; done)), H', ⟨by first | omega | exact Nat.le_refl _⟩, ⟨by (with_reducible repeat (first | refine blk_drewN ?_ _ | refine blk_drew ?_ | refine blk_alloc ?_ _)); exact BK392.out⟩, ⟨by (with_reducible repeat (first | refine blk_drewN ?_ _ | refine blk_drew ?_ | refine blk_alloc ?_ _)); exact BK397.out⟩, ⟨by repeat (first | (with_reducible first | exact HB.out | apply below_alloc | apply pw_below_drewN | apply below_drew1 | refine below_set ?_ GE392.out | refine below_set ?_ GE397.out) | exact HB.out)⟩⟩
      · rw [if_neg c19] at H
        have c19b0 : (t396 == 0) = false := beq_eq_false_iff_ne.mpr c19
        have c19b1 : (t396 != 0) = true := bne_iff_ne.mpr c19
        (first | rw [c19b0] | (simp only [i64_w, i32_w]; rw [c19b0]) | skip)
        have H' := Aside0.mk H
        clear H
        go_wp2
        go_meet
        case rel => exact ⟨_, (true), (by first | rfl | (simp; done) | (simp [*]; done)), H', ⟨by first | omega | exact Nat.le_refl _⟩, ⟨by (with_reducible repeat (first | refine blk_drewN ?_ _ | refine blk_drew ?_ | refine blk_alloc ?_ _)); exact BK392.out⟩, ⟨by (with_reducible repeat (first | refine blk_drewN ?_ _ | refine blk_drew ?_ | refine blk_alloc ?_ _)); exact BK397.out⟩, ⟨by repeat (first | (with_reducible first | exact HB.out | apply below_alloc | apply pw_below_drewN | apply below_drew1 | refine below_set ?_ GE392.out | refine below_set ?_ GE397.out) | exact HB.out)⟩⟩
    case rest =>
      clear HC9
      try clear c1
      try clear p2
      try clear c4
      try clear c4b0
      try clear c4b1
      try clear c8
      try clear c10
      try clear c11
      try clear c13
      try clear c15
      try clear c19
      try clear c19b0
      try clear c19b1
      try clear hcz12_0
      try clear hcz12_1
      try clear hcz16_0
      try clear hcz16_1
      try clear hcz17_0
      try clear hcz17_1
      try clear hfz12_0
      try clear hfz12_1
      try clear hfz16_0
      try clear hfz16_1
      try clear hfz17_0
      try clear hfz17_1
      obtain ⟨kq, x41_8, rfl, HA, HJ8, BK392, BK397, HB⟩ := hcut
      cases kq with
      | zero => exact absurd HA.out (by simp [epactlaw25_SmearFloor.j0])
      | succ kj8 =>
        have H := HA.out
        clear HA
        simp only [epactlaw25_SmearFloor.j0] at H
        by_cases c20 : x41_8 = true
        · subst c20
          have H1 : (some t393) = some r := by rw [if_pos rfl] at H; exact H
          clear H
          have H := H1
          clear H1
          obtain rfl := Option.some.inj H
          go_wp2
          go_ret
          exact ⟨by first | rfl | (simp [errW_none, errW_some] <;> rfl) | (simp [*, errW_none, errW_some] <;> rfl), by repeat (first | (with_reducible first | exact HB.out | apply below_alloc | apply pw_below_drewN | apply below_drew1 | refine below_set ?_ GE392.out | refine below_set ?_ GE397.out) | exact HB.out)⟩
        · replace c20 := Bool.eq_false_iff.mpr c20
          subst c20
          have H1 : ((smear_Smear.f kj8 l0 t398 0).bind fun bt401 => ((posix_From.f kj8 l0 t398).bind fun bt405 => (if t393 = true then (if bt401.2.2 = 0 then (if (bt401.1 == bt405.1 && (bt401.2.1 == 0)) = true then (if (Int.tmod bt405.1 86400) = 43200 then (if (wrap64 ((wrap64 ((wrap64 (t394 - bt405.1)) * 1000000000)) + t395)) ≥ 0 then (if (wrap64 ((wrap64 ((wrap64 (a1_0 - t398)) * 1000000000)) + a1_1)) ≥ 0 then ((wide_Less.f (wrap64 ((wrap64 ((wrap64 (a1_0 - t398)) * 1000000000)) + a1_1)) 86400 (wrap64 ((wrap64 ((wrap64 (t394 - bt405.1)) * 1000000000)) + t395)) t399).bind fun t407 => (if t407 = true then (none) else ((wide_Less.f (wrap64 ((wrap64 ((wrap64 (a1_0 - t398)) * 1000000000)) + a1_1)) 86400 (wrap64 ((wrap64 ((wrap64 ((wrap64 (t394 - bt405.1)) * 1000000000)) + t395)) + 1)) t399).bind fun t408 => (if t408 = true then (if t399 = 86401 then (some true) else (some (t399 == 86399))) else (none))))) else (none)) else (none)) else (none)) else (none)) else (none)) else (none)))) = some r := by rw [if_neg (show ¬ (false = true) by decide)] at H; exact H
          clear H
          have H := H1
          clear H1
          replace H := Option.bind_eq_some_iff.mp H
          obtain ⟨⟨t401, t402, t403⟩, A210, H⟩ := H
          replace H : ((posix_From.f kj8 l0 t398).bind fun bt405 => (if t393 = true then (if t403 = 0 then (if (t401 == bt405.1 && (t402 == 0)) = true then (if (Int.tmod bt405.1 86400) = 43200 then (if (wrap64 ((wrap64 ((wrap64 (t394 - bt405.1)) * 1000000000)) + t395)) ≥ 0 then (if (wrap64 ((wrap64 ((wrap64 (a1_0 - t398)) * 1000000000)) + a1_1)) ≥ 0 then ((wide_Less.f (wrap64 ((wrap64 ((wrap64 (a1_0 - t398)) * 1000000000)) + a1_1)) 86400 (wrap64 ((wrap64 ((wrap64 (t394 - bt405.1)) * 1000000000)) + t395)) t399).bind fun t407 => (if t407 = true then (none) else ((wide_Less.f (wrap64 ((wrap64 ((wrap64 (a1_0 - t398)) * 1000000000)) + a1_1)) 86400 (wrap64 ((wrap64 ((wrap64 ((wrap64 (t394 - bt405.1)) * 1000000000)) + t395)) + 1)) t399).bind fun t408 => (if t408 = true then (if t399 = 86401 then (some true) else (some (t399 == 86399))) else (none))))) else (none)) else (none)) else (none)) else (none)) else (none)) else (none))) = some r := H
          have A21 := Aside0.mk A210
          clear A210
          replace H := Option.bind_eq_some_iff.mp H
          obtain ⟨⟨t405, t406⟩, A220, H⟩ := H
          replace H : (if t393 = true then (if t403 = 0 then (if (t401 == t405 && (t402 == 0)) = true then (if (Int.tmod t405 86400) = 43200 then (if (wrap64 ((wrap64 ((wrap64 (t394 - t405)) * 1000000000)) + t395)) ≥ 0 then (if (wrap64 ((wrap64 ((wrap64 (a1_0 - t398)) * 1000000000)) + a1_1)) ≥ 0 then ((wide_Less.f (wrap64 ((wrap64 ((wrap64 (a1_0 - t398)) * 1000000000)) + a1_1)) 86400 (wrap64 ((wrap64 ((wrap64 (t394 - t405)) * 1000000000)) + t395)) t399).bind fun t407 => (if t407 = true then (none) else ((wide_Less.f (wrap64 ((wrap64 ((wrap64 (a1_0 - t398)) * 1000000000)) + a1_1)) 86400 (wrap64 ((wrap64 ((wrap64 ((wrap64 (t394 - t405)) * 1000000000)) + t395)) + 1)) t399).bind fun t408 => (if t408 = true then (if t399 = 86401 then (some true) else (some (t399 == 86399))) else (none))))) else (none)) else (none)) else (none)) else (none)) else (none)) else (none)) = some r := H
          have A22 := Aside0.mk A220
          clear A220
          by_cases c23 : t393 = true
          · subst c23
            have H1 : (if t403 = 0 then (if (t401 == t405 && (t402 == 0)) = true then (if (Int.tmod t405 86400) = 43200 then (if (wrap64 ((wrap64 ((wrap64 (t394 - t405)) * 1000000000)) + t395)) ≥ 0 then (if (wrap64 ((wrap64 ((wrap64 (a1_0 - t398)) * 1000000000)) + a1_1)) ≥ 0 then ((wide_Less.f (wrap64 ((wrap64 ((wrap64 (a1_0 - t398)) * 1000000000)) + a1_1)) 86400 (wrap64 ((wrap64 ((wrap64 (t394 - t405)) * 1000000000)) + t395)) t399).bind fun t407 => (if t407 = true then (none) else ((wide_Less.f (wrap64 ((wrap64 ((wrap64 (a1_0 - t398)) * 1000000000)) + a1_1)) 86400 (wrap64 ((wrap64 ((wrap64 ((wrap64 (t394 - t405)) * 1000000000)) + t395)) + 1)) t399).bind fun t408 => (if t408 = true then (if t399 = 86401 then (some true) else (some (t399 == 86399))) else (none))))) else (none)) else (none)) else (none)) else (none)) else (none)) = some r := by rw [if_pos rfl] at H; exact H
            clear H
            have H := H1
            clear H1
            by_cases c24 : t403 = 0
            · rw [if_pos c24] at H
              have c24b0 : (t403 == 0) = true := beq_iff_eq.mpr c24
              have c24b1 : (t403 != 0) = false := bne_eq_false_iff_eq.mpr c24
              clear c24
              by_cases c25 : (t401 == t405 && (t402 == 0)) = true
              · rw [if_pos c25] at H
                have c25b0 : (t401 == t405 && (t402 == 0)) = true := c25
                (try (have c25b1 : decide (t401 = t405 && (t402 == 0)) = true := by first | (simp; done) | (simp at c25; done) | simpa using c25))
                (try (have c25b2 : (t401 == t405 && (t402 == 0)) = true := by first | (simp; done) | (simp at c25; done) | simpa using c25))
                clear c25
                by_cases c26 : (Int.tmod t405 86400) = 43200
                · rw [if_pos c26] at H
                  have c26b0 : ((Int.tmod t405 86400) == 43200) = true := beq_iff_eq.mpr c26
                  have c26b1 : ((Int.tmod t405 86400) != 43200) = false := bne_eq_false_iff_eq.mpr c26
                  clear c26
                  by_cases c27 : (wrap64 ((wrap64 ((wrap64 (t394 - t405)) * 1000000000)) + t395)) ≥ 0
                  · rw [if_pos c27] at H
                    have c27b0 : decide (0 ≤ (wrap64 ((wrap64 ((wrap64 (t394 - t405)) * 1000000000)) + t395))) = true := decide_eq_true c27
                    clear c27
                    by_cases c28 : (wrap64 ((wrap64 ((wrap64 (a1_0 - t398)) * 1000000000)) + a1_1)) ≥ 0
                    · rw [if_pos c28] at H
                      have c28b0 : decide (0 ≤ (wrap64 ((wrap64 ((wrap64 (a1_0 - t398)) * 1000000000)) + a1_1))) = true := decide_eq_true c28
                      clear c28
                      replace H := Option.bind_eq_some_iff.mp H
                      obtain ⟨t407, A290, H⟩ := H
                      replace H : (if t407 = true then (none) else ((wide_Less.f (wrap64 ((wrap64 ((wrap64 (a1_0 - t398)) * 1000000000)) + a1_1)) 86400 (wrap64 ((wrap64 ((wrap64 ((wrap64 (t394 - t405)) * 1000000000)) + t395)) + 1)) t399).bind fun t408 => (if t408 = true then (if t399 = 86401 then (some true) else (some (t399 == 86399))) else (none)))) = some r := H
                      have A29 := Aside0.mk A290
                      clear A290
                      by_cases c30 : t407 = true
                      · subst c30
                        have H1 : (none) = some r := by rw [if_pos rfl] at H; exact H
                        clear H
                        have H := H1
                        clear H1
                        exact absurd H (by simp)
                      · replace c30 := Bool.eq_false_iff.mpr c30
                        subst c30
                        have H1 : ((wide_Less.f (wrap64 ((wrap64 ((wrap64 (a1_0 - t398)) * 1000000000)) + a1_1)) 86400 (wrap64 ((wrap64 ((wrap64 ((wrap64 (t394 - t405)) * 1000000000)) + t395)) + 1)) t399).bind fun t408 => (if t408 = true then (if t399 = 86401 then (some true) else (some (t399 == 86399))) else (none))) = some r := by rw [if_neg (show ¬ (false = true) by decide)] at H; exact H
                        clear H
                        have H := H1
                        clear H1
                        replace H := Option.bind_eq_some_iff.mp H
                        obtain ⟨t408, A310, H⟩ := H
                        replace H : (if t408 = true then (if t399 = 86401 then (some true) else (some (t399 == 86399))) else (none)) = some r := H
                        have A31 := Aside0.mk A310
                        clear A310
                        by_cases c32 : t408 = true
                        · subst c32
                          have H1 : (if t399 = 86401 then (some true) else (some (t399 == 86399))) = some r := by rw [if_pos rfl] at H; exact H
                          clear H
                          have H := H1
                          clear H1
                          by_cases c33 : t399 = 86401
                          · rw [if_pos c33] at H
                            have c33b0 : (t399 == 86401) = true := beq_iff_eq.mpr c33
                            have c33b1 : (t399 != 86401) = false := bne_eq_false_iff_eq.mpr c33
                            clear c33
                            obtain rfl := Option.some.inj H
                            go_wp2_with (first | ((with_reducible refine gate_callee (f := 13) rfl ?_); refine goesL_ (some 47) rfl rfl Try.func13 (by kernel_rfl) rfl #[.slice A0 l0.length c0, .agg #[.int .i64 t398, .int .i64 0]] rfl (by (try simp only [List.map_toArray, List.map_cons, List.map_nil]); first | done | rfl | (simp only [List.length_drop, List.length_take]; rfl)) ?_; (with_reducible refine (smear_Smear.calls kj8 _ _ l0 t398 0 t401 t402 t403 _ ?side1 ?side2 A21.out).mono ?_); (case side1 => repeat (first | exact (Kd.C_below HR0.out HB.out) | (with_reducible refine Kd.C_alloc ?_ _) | (with_reducible refine Kd.C_drewN ?_ _) | (with_reducible refine Kd.C_drew ?_))); (case side2 => exact HC0.out); rintro e w34 ⟨rfl, hb⟩; refine ⟨_, rfl, ?_⟩; have n0_ := Aside0.mk (blk_below (g := gb392) (o := .cells #[.int .i64 a1_0, .int .i64 a1_1] 24 (0, 0)) (by (with_reducible repeat (first | refine blk_drewN ?_ _ | refine blk_drew ?_ | refine blk_alloc ?_ _)); exact BK392.out) hb); have n1_ := Aside0.mk (blk_below (g := gb397) (o := .cells #[.int .i64 t394, .int .i64 t395] 24 (0, 0)) (by (with_reducible repeat (first | refine blk_drewN ?_ _ | refine blk_drew ?_ | refine blk_alloc ?_ _)); exact BK397.out) hb); have n2_ := Aside0.mk (below_step (by repeat (first | (with_reducible first | exact HB.out | apply below_alloc | apply pw_below_drewN | apply below_drew1 | refine below_set ?_ GE392.out | refine below_set ?_ GE397.out) | exact HB.out)) hb); clear BK392; clear BK397; clear HB; have BK392 := n0_; have BK397 := n1_; have HB := n2_; clear n0_ n1_ n2_; (try clear hb); (try clear hb2); (try clear hk); (try clear hi)) | ((with_reducible refine gate_dst (N := 11) rfl ?_); refine box_event ?hg (N := 11) ?hd (cs := #[.int .i64 0, .int .i64 0]) (t := 24) ?hr ?_; (case hd => rfl); (case hg => rfl); (case hr => first | (go_simp; done) | (go_simp; rfl)); intro gb404 hg w35 hbox hb; have n0_ := Aside0.mk (blk_below (g := gb392) (o := .cells #[.int .i64 a1_0, .int .i64 a1_1] 24 (0, 0)) (by (with_reducible repeat (first | refine blk_drewN ?_ _ | refine blk_drew ?_ | refine blk_alloc ?_ _)); exact BK392.out) hb); have n1_ := Aside0.mk (blk_below (g := gb397) (o := .cells #[.int .i64 t394, .int .i64 t395] 24 (0, 0)) (by (with_reducible repeat (first | refine blk_drewN ?_ _ | refine blk_drew ?_ | refine blk_alloc ?_ _)); exact BK397.out) hb); have n2_ := Aside0.mk (below_step (by repeat (first | (with_reducible first | exact HB.out | apply below_alloc | apply pw_below_drewN | apply below_drew1 | refine below_set ?_ GE392.out | refine below_set ?_ GE397.out) | exact HB.out)) hb); have n3_ := Aside0.mk (hbox); have n4_ := Aside0.mk ((by rw [hg]; exact (below_size (by repeat (first | (with_reducible first | exact HB.out | apply below_alloc | apply pw_below_drewN | apply below_drew1 | refine below_set ?_ GE392.out | refine below_set ?_ GE397.out) | exact HB.out))) : w.heap.size ≤ gb404)); have n5_ := Aside0.mk ((by rw [hg]; exact (below_size (by repeat (first | (with_reducible first | exact HB.out | apply below_alloc | apply pw_below_drewN | apply below_drew1 | refine below_set ?_ GE392.out | refine below_set ?_ GE397.out) | exact HB.out))) : w.heap.size ≤ gb404)); have n6_ := Aside0.mk ((by rw [hg]; exact Nat.ne_of_lt (blk_lt (g := gb392) (o := .cells #[.int .i64 a1_0, .int .i64 a1_1] 24 (0, 0)) (by (with_reducible repeat (first | refine blk_drewN ?_ _ | refine blk_drew ?_ | refine blk_alloc ?_ _)); exact BK392.out)) : gb392 ≠ gb404)); have n7_ := Aside0.mk ((by rw [hg]; exact Nat.ne_of_gt (blk_lt (g := gb392) (o := .cells #[.int .i64 a1_0, .int .i64 a1_1] 24 (0, 0)) (by (with_reducible repeat (first | refine blk_drewN ?_ _ | refine blk_drew ?_ | refine blk_alloc ?_ _)); exact BK392.out)) : gb404 ≠ gb392)); have n8_ := Aside0.mk ((by rw [hg]; exact Nat.ne_of_lt (blk_lt (g := gb397) (o := .cells #[.int .i64 t394, .int .i64 t395] 24 (0, 0)) (by (with_reducible repeat (first | refine blk_drewN ?_ _ | refine blk_drew ?_ | refine blk_alloc ?_ _)); exact BK397.out)) : gb397 ≠ gb404)); have n9_ := Aside0.mk ((by rw [hg]; exact Nat.ne_of_gt (blk_lt (g := gb397) (o := .cells #[.int .i64 t394, .int .i64 t395] 24 (0, 0)) (by (with_reducible repeat (first | refine blk_drewN ?_ _ | refine blk_drew ?_ | refine blk_alloc ?_ _)); exact BK397.out)) : gb404 ≠ gb397)); clear BK392; clear BK397; clear HB; have BK392 := n0_; have BK397 := n1_; have HB := n2_; have BK404 := n3_; have GW404 := n4_; have GE404 := n5_; have NB392_404 := n6_; have NB404_392 := n7_; have NB397_404 := n8_; have NB404_397 := n9_; clear n0_ n1_ n2_ n3_ n4_ n5_ n6_ n7_ n8_ n9_; clear hb hbox hg; have hnb36 := NB404_392.out; have hnc36 := NB392_404.out; have hnb37 := NB404_397.out; have hnc37 := NB397_404.out; have hcz38_0 : w35.cell? ⟨gb404, 0, none⟩ = some (.int .i64 0) := (blk_cell BK404.out 0).trans rfl; have hcz38_1 : w35.cell? ⟨gb404, 1, none⟩ = some (.int .i64 0) := (blk_cell BK404.out 1).trans rfl; have hfz38_0 := blk_frozen BK404.out 0; have hfz38_1 := blk_frozen BK404.out 1) | ((with_reducible refine gate_callee (f := 23) rfl ?_); refine goesL_ (some 53) rfl rfl Try.func23 (by kernel_rfl) rfl #[.slice A0 l0.length c0, .int .i64 t398] rfl (by (try simp only [List.map_toArray, List.map_cons, List.map_nil]); first | done | rfl | (simp only [List.length_drop, List.length_take]; rfl)) ?_; (with_reducible refine (posix_From.calls kj8 _ _ l0 t398 t405 t406 _ ?side1 ?side2 A22.out).mono ?_); (case side1 => exact Kd.C_below HR0.out (by repeat (first | (with_reducible first | exact HB.out | apply below_alloc | apply pw_below_drewN | apply below_drew1 | refine below_set ?_ GE392.out | refine below_set ?_ GE397.out | refine below_set ?_ GE404.out) | exact HB.out))); (case side2 => exact HC0.out); rintro e w39 ⟨rfl, hb⟩; refine ⟨_, rfl, ?_⟩; have n0_ := Aside0.mk (blk_below (g := gb392) (o := .cells #[.int .i64 a1_0, .int .i64 a1_1] 24 (0, 0)) (by (with_reducible repeat (first | refine blk_drewN ?_ _ | refine blk_drew ?_ | refine blk_alloc ?_ _)); refine blk_far ?_ NB392_404.out _; (with_reducible repeat (first | refine blk_drewN ?_ _ | refine blk_drew ?_ | refine blk_alloc ?_ _)); refine blk_far ?_ NB392_404.out _; (with_reducible repeat (first | refine blk_drewN ?_ _ | refine blk_drew ?_ | refine blk_alloc ?_ _)); exact BK392.out) hb); have n1_ := Aside0.mk (blk_below (g := gb397) (o := .cells #[.int .i64 t394, .int .i64 t395] 24 (0, 0)) (by (with_reducible repeat (first | refine blk_drewN ?_ _ | refine blk_drew ?_ | refine blk_alloc ?_ _)); refine blk_far ?_ NB397_404.out _; (with_reducible repeat (first | refine blk_drewN ?_ _ | refine blk_drew ?_ | refine blk_alloc ?_ _)); refine blk_far ?_ NB397_404.out _; (with_reducible repeat (first | refine blk_drewN ?_ _ | refine blk_drew ?_ | refine blk_alloc ?_ _)); exact BK397.out) hb); have n2_ := Aside0.mk (blk_below (g := gb404) (o := .cells #[.int .i64 t401, .int .i64 t402] 24 (0, 0)) (by (with_reducible repeat (first | refine blk_drewN ?_ _ | refine blk_drew ?_ | refine blk_alloc ?_ _)); refine blk_put (cs := #[.int .i64 t401, .int .i64 0]) ?_ 1 _ rfl; (with_reducible repeat (first | refine blk_drewN ?_ _ | refine blk_drew ?_ | refine blk_alloc ?_ _)); refine blk_put (cs := #[.int .i64 0, .int .i64 0]) ?_ 0 _ rfl; (with_reducible repeat (first | refine blk_drewN ?_ _ | refine blk_drew ?_ | refine blk_alloc ?_ _)); exact BK404.out) hb); have n3_ := Aside0.mk (below_step (by repeat (first | (with_reducible first | exact HB.out | apply below_alloc | apply pw_below_drewN | apply below_drew1 | refine below_set ?_ GE392.out | refine below_set ?_ GE397.out | refine below_set ?_ GE404.out) | exact HB.out)) hb); clear BK392; clear BK397; clear BK404; clear HB; have BK392 := n0_; have BK397 := n1_; have BK404 := n2_; have HB := n3_; clear n0_ n1_ n2_ n3_; (try clear hb); (try clear hb2); (try clear hk); (try clear hi); have hnb40 := NB392_397.out; have hnc40 := NB397_392.out; have hcz41_0 : w39.cell? ⟨gb392, 0, none⟩ = some (.int .i64 a1_0) := (blk_cell BK392.out 0).trans rfl; have hcz41_1 : w39.cell? ⟨gb392, 1, none⟩ = some (.int .i64 a1_1) := (blk_cell BK392.out 1).trans rfl; have hfz41_0 := blk_frozen BK392.out 0; have hfz41_1 := blk_frozen BK392.out 1; have hcz42_0 : w39.cell? ⟨gb397, 0, none⟩ = some (.int .i64 t394) := (blk_cell BK397.out 0).trans rfl; have hcz42_1 : w39.cell? ⟨gb397, 1, none⟩ = some (.int .i64 t395) := (blk_cell BK397.out 1).trans rfl; have hfz42_0 := blk_frozen BK397.out 0; have hfz42_1 := blk_frozen BK397.out 1; have hcz43_0 : w39.cell? ⟨gb404, 0, none⟩ = some (.int .i64 t401) := (blk_cell BK404.out 0).trans rfl; have hcz43_1 : w39.cell? ⟨gb404, 1, none⟩ = some (.int .i64 t402) := (blk_cell BK404.out 1).trans rfl; have hfz43_0 := blk_frozen BK404.out 0; have hfz43_1 := blk_frozen BK404.out 1) | (go_at_call 24; (with_reducible refine (wide_Less.calls (wrap64 ((wrap64 ((wrap64 (a1_0 - t398)) * 1000000000)) + a1_1)) 86400 (wrap64 ((wrap64 ((wrap64 (t394 - t405)) * 1000000000)) + t395)) t399 false _ A29.out).mono ?_); rintro e w' ⟨rfl, ⟨nd, rfl⟩⟩) | (go_at_call 24; (with_reducible refine (wide_Less.calls (wrap64 ((wrap64 ((wrap64 (a1_0 - t398)) * 1000000000)) + a1_1)) 86400 (wrap64 ((wrap64 ((wrap64 ((wrap64 (t394 - t405)) * 1000000000)) + t395)) + 1)) t399 true _ A31.out).mono ?_); rintro e w' ⟨rfl, ⟨nd, rfl⟩⟩))
                            go_ret
                            exact ⟨by first | rfl | (simp [errW_none, errW_some] <;> rfl) | (simp [*, errW_none, errW_some] <;> rfl), by repeat (first | (with_reducible first | exact HB.out | apply below_alloc | apply pw_below_drewN | apply below_drew1 | refine below_set ?_ GE392.out | refine below_set ?_ GE397.out | refine below_set ?_ GE404.out) | exact HB.out)⟩
                          · rw [if_neg c33] at H
                            have c33b0 : (t399 == 86401) = false := beq_eq_false_iff_ne.mpr c33
                            have c33b1 : (t399 != 86401) = true := bne_iff_ne.mpr c33
                            obtain rfl := Option.some.inj H
                            go_wp2_with (first | ((with_reducible refine gate_callee (f := 13) rfl ?_); refine goesL_ (some 47) rfl rfl Try.func13 (by kernel_rfl) rfl #[.slice A0 l0.length c0, .agg #[.int .i64 t398, .int .i64 0]] rfl (by (try simp only [List.map_toArray, List.map_cons, List.map_nil]); first | done | rfl | (simp only [List.length_drop, List.length_take]; rfl)) ?_; (with_reducible refine (smear_Smear.calls kj8 _ _ l0 t398 0 t401 t402 t403 _ ?side1 ?side2 A21.out).mono ?_); (case side1 => repeat (first | exact (Kd.C_below HR0.out HB.out) | (with_reducible refine Kd.C_alloc ?_ _) | (with_reducible refine Kd.C_drewN ?_ _) | (with_reducible refine Kd.C_drew ?_))); (case side2 => exact HC0.out); rintro e w44 ⟨rfl, hb⟩; refine ⟨_, rfl, ?_⟩; have n0_ := Aside0.mk (blk_below (g := gb392) (o := .cells #[.int .i64 a1_0, .int .i64 a1_1] 24 (0, 0)) (by (with_reducible repeat (first | refine blk_drewN ?_ _ | refine blk_drew ?_ | refine blk_alloc ?_ _)); exact BK392.out) hb); have n1_ := Aside0.mk (blk_below (g := gb397) (o := .cells #[.int .i64 t394, .int .i64 t395] 24 (0, 0)) (by (with_reducible repeat (first | refine blk_drewN ?_ _ | refine blk_drew ?_ | refine blk_alloc ?_ _)); exact BK397.out) hb); have n2_ := Aside0.mk (below_step (by repeat (first | (with_reducible first | exact HB.out | apply below_alloc | apply pw_below_drewN | apply below_drew1 | refine below_set ?_ GE392.out | refine below_set ?_ GE397.out) | exact HB.out)) hb); clear BK392; clear BK397; clear HB; have BK392 := n0_; have BK397 := n1_; have HB := n2_; clear n0_ n1_ n2_; (try clear hb); (try clear hb2); (try clear hk); (try clear hi)) | ((with_reducible refine gate_dst (N := 11) rfl ?_); refine box_event ?hg (N := 11) ?hd (cs := #[.int .i64 0, .int .i64 0]) (t := 24) ?hr ?_; (case hd => rfl); (case hg => rfl); (case hr => first | (go_simp; done) | (go_simp; rfl)); intro gb404 hg w45 hbox hb; have n0_ := Aside0.mk (blk_below (g := gb392) (o := .cells #[.int .i64 a1_0, .int .i64 a1_1] 24 (0, 0)) (by (with_reducible repeat (first | refine blk_drewN ?_ _ | refine blk_drew ?_ | refine blk_alloc ?_ _)); exact BK392.out) hb); have n1_ := Aside0.mk (blk_below (g := gb397) (o := .cells #[.int .i64 t394, .int .i64 t395] 24 (0, 0)) (by (with_reducible repeat (first | refine blk_drewN ?_ _ | refine blk_drew ?_ | refine blk_alloc ?_ _)); exact BK397.out) hb); have n2_ := Aside0.mk (below_step (by repeat (first | (with_reducible first | exact HB.out | apply below_alloc | apply pw_below_drewN | apply below_drew1 | refine below_set ?_ GE392.out | refine below_set ?_ GE397.out) | exact HB.out)) hb); have n3_ := Aside0.mk (hbox); have n4_ := Aside0.mk ((by rw [hg]; exact (below_size (by repeat (first | (with_reducible first | exact HB.out | apply below_alloc | apply pw_below_drewN | apply below_drew1 | refine below_set ?_ GE392.out | refine below_set ?_ GE397.out) | exact HB.out))) : w.heap.size ≤ gb404)); have n5_ := Aside0.mk ((by rw [hg]; exact (below_size (by repeat (first | (with_reducible first | exact HB.out | apply below_alloc | apply pw_below_drewN | apply below_drew1 | refine below_set ?_ GE392.out | refine below_set ?_ GE397.out) | exact HB.out))) : w.heap.size ≤ gb404)); have n6_ := Aside0.mk ((by rw [hg]; exact Nat.ne_of_lt (blk_lt (g := gb392) (o := .cells #[.int .i64 a1_0, .int .i64 a1_1] 24 (0, 0)) (by (with_reducible repeat (first | refine blk_drewN ?_ _ | refine blk_drew ?_ | refine blk_alloc ?_ _)); exact BK392.out)) : gb392 ≠ gb404)); have n7_ := Aside0.mk ((by rw [hg]; exact Nat.ne_of_gt (blk_lt (g := gb392) (o := .cells #[.int .i64 a1_0, .int .i64 a1_1] 24 (0, 0)) (by (with_reducible repeat (first | refine blk_drewN ?_ _ | refine blk_drew ?_ | refine blk_alloc ?_ _)); exact BK392.out)) : gb404 ≠ gb392)); have n8_ := Aside0.mk ((by rw [hg]; exact Nat.ne_of_lt (blk_lt (g := gb397) (o := .cells #[.int .i64 t394, .int .i64 t395] 24 (0, 0)) (by (with_reducible repeat (first | refine blk_drewN ?_ _ | refine blk_drew ?_ | refine blk_alloc ?_ _)); exact BK397.out)) : gb397 ≠ gb404)); have n9_ := Aside0.mk ((by rw [hg]; exact Nat.ne_of_gt (blk_lt (g := gb397) (o := .cells #[.int .i64 t394, .int .i64 t395] 24 (0, 0)) (by (with_reducible repeat (first | refine blk_drewN ?_ _ | refine blk_drew ?_ | refine blk_alloc ?_ _)); exact BK397.out)) : gb404 ≠ gb397)); clear BK392; clear BK397; clear HB; have BK392 := n0_; have BK397 := n1_; have HB := n2_; have BK404 := n3_; have GW404 := n4_; have GE404 := n5_; have NB392_404 := n6_; have NB404_392 := n7_; have NB397_404 := n8_; have NB404_397 := n9_; clear n0_ n1_ n2_ n3_ n4_ n5_ n6_ n7_ n8_ n9_; clear hb hbox hg; have hnb46 := NB404_392.out; have hnc46 := NB392_404.out; have hnb47 := NB404_397.out; have hnc47 := NB397_404.out; have hcz48_0 : w45.cell? ⟨gb404, 0, none⟩ = some (.int .i64 0) := (blk_cell BK404.out 0).trans rfl; have hcz48_1 : w45.cell? ⟨gb404, 1, none⟩ = some (.int .i64 0) := (blk_cell BK404.out 1).trans rfl; have hfz48_0 := blk_frozen BK404.out 0; have hfz48_1 := blk_frozen BK404.out 1) | ((with_reducible refine gate_callee (f := 23) rfl ?_); refine goesL_ (some 53) rfl rfl Try.func23 (by kernel_rfl) rfl #[.slice A0 l0.length c0, .int .i64 t398] rfl (by (try simp only [List.map_toArray, List.map_cons, List.map_nil]); first | done | rfl | (simp only [List.length_drop, List.length_take]; rfl)) ?_; (with_reducible refine (posix_From.calls kj8 _ _ l0 t398 t405 t406 _ ?side1 ?side2 A22.out).mono ?_); (case side1 => exact Kd.C_below HR0.out (by repeat (first | (with_reducible first | exact HB.out | apply below_alloc | apply pw_below_drewN | apply below_drew1 | refine below_set ?_ GE392.out | refine below_set ?_ GE397.out | refine below_set ?_ GE404.out) | exact HB.out))); (case side2 => exact HC0.out); rintro e w49 ⟨rfl, hb⟩; refine ⟨_, rfl, ?_⟩; have n0_ := Aside0.mk (blk_below (g := gb392) (o := .cells #[.int .i64 a1_0, .int .i64 a1_1] 24 (0, 0)) (by (with_reducible repeat (first | refine blk_drewN ?_ _ | refine blk_drew ?_ | refine blk_alloc ?_ _)); refine blk_far ?_ NB392_404.out _; (with_reducible repeat (first | refine blk_drewN ?_ _ | refine blk_drew ?_ | refine blk_alloc ?_ _)); refine blk_far ?_ NB392_404.out _; (with_reducible repeat (first | refine blk_drewN ?_ _ | refine blk_drew ?_ | refine blk_alloc ?_ _)); exact BK392.out) hb); have n1_ := Aside0.mk (blk_below (g := gb397) (o := .cells #[.int .i64 t394, .int .i64 t395] 24 (0, 0)) (by (with_reducible repeat (first | refine blk_drewN ?_ _ | refine blk_drew ?_ | refine blk_alloc ?_ _)); refine blk_far ?_ NB397_404.out _; (with_reducible repeat (first | refine blk_drewN ?_ _ | refine blk_drew ?_ | refine blk_alloc ?_ _)); refine blk_far ?_ NB397_404.out _; (with_reducible repeat (first | refine blk_drewN ?_ _ | refine blk_drew ?_ | refine blk_alloc ?_ _)); exact BK397.out) hb); have n2_ := Aside0.mk (blk_below (g := gb404) (o := .cells #[.int .i64 t401, .int .i64 t402] 24 (0, 0)) (by (with_reducible repeat (first | refine blk_drewN ?_ _ | refine blk_drew ?_ | refine blk_alloc ?_ _)); refine blk_put (cs := #[.int .i64 t401, .int .i64 0]) ?_ 1 _ rfl; (with_reducible repeat (first | refine blk_drewN ?_ _ | refine blk_drew ?_ | refine blk_alloc ?_ _)); refine blk_put (cs := #[.int .i64 0, .int .i64 0]) ?_ 0 _ rfl; (with_reducible repeat (first | refine blk_drewN ?_ _ | refine blk_drew ?_ | refine blk_alloc ?_ _)); exact BK404.out) hb); have n3_ := Aside0.mk (below_step (by repeat (first | (with_reducible first | exact HB.out | apply below_alloc | apply pw_below_drewN | apply below_drew1 | refine below_set ?_ GE392.out | refine below_set ?_ GE397.out | refine below_set ?_ GE404.out) | exact HB.out)) hb); clear BK392; clear BK397; clear BK404; clear HB; have BK392 := n0_; have BK397 := n1_; have BK404 := n2_; have HB := n3_; clear n0_ n1_ n2_ n3_; (try clear hb); (try clear hb2); (try clear hk); (try clear hi); have hnb50 := NB392_397.out; have hnc50 := NB397_392.out; have hcz51_0 : w49.cell? ⟨gb392, 0, none⟩ = some (.int .i64 a1_0) := (blk_cell BK392.out 0).trans rfl; have hcz51_1 : w49.cell? ⟨gb392, 1, none⟩ = some (.int .i64 a1_1) := (blk_cell BK392.out 1).trans rfl; have hfz51_0 := blk_frozen BK392.out 0; have hfz51_1 := blk_frozen BK392.out 1; have hcz52_0 : w49.cell? ⟨gb397, 0, none⟩ = some (.int .i64 t394) := (blk_cell BK397.out 0).trans rfl; have hcz52_1 : w49.cell? ⟨gb397, 1, none⟩ = some (.int .i64 t395) := (blk_cell BK397.out 1).trans rfl; have hfz52_0 := blk_frozen BK397.out 0; have hfz52_1 := blk_frozen BK397.out 1; have hcz53_0 : w49.cell? ⟨gb404, 0, none⟩ = some (.int .i64 t401) := (blk_cell BK404.out 0).trans rfl; have hcz53_1 : w49.cell? ⟨gb404, 1, none⟩ = some (.int .i64 t402) := (blk_cell BK404.out 1).trans rfl; have hfz53_0 := blk_frozen BK404.out 0; have hfz53_1 := blk_frozen BK404.out 1) | (go_at_call 24; (with_reducible refine (wide_Less.calls (wrap64 ((wrap64 ((wrap64 (a1_0 - t398)) * 1000000000)) + a1_1)) 86400 (wrap64 ((wrap64 ((wrap64 (t394 - t405)) * 1000000000)) + t395)) t399 false _ A29.out).mono ?_); rintro e w' ⟨rfl, ⟨nd, rfl⟩⟩) | (go_at_call 24; (with_reducible refine (wide_Less.calls (wrap64 ((wrap64 ((wrap64 (a1_0 - t398)) * 1000000000)) + a1_1)) 86400 (wrap64 ((wrap64 ((wrap64 ((wrap64 (t394 - t405)) * 1000000000)) + t395)) + 1)) t399 true _ A31.out).mono ?_); rintro e w' ⟨rfl, ⟨nd, rfl⟩⟩))
                            go_ret
                            exact ⟨by first | rfl | (simp [errW_none, errW_some] <;> rfl) | (simp [*, errW_none, errW_some] <;> rfl), by repeat (first | (with_reducible first | exact HB.out | apply below_alloc | apply pw_below_drewN | apply below_drew1 | refine below_set ?_ GE392.out | refine below_set ?_ GE397.out | refine below_set ?_ GE404.out) | exact HB.out)⟩
                        · replace c32 := Bool.eq_false_iff.mpr c32
                          subst c32
                          have H1 : (none) = some r := by rw [if_neg (show ¬ (false = true) by decide)] at H; exact H
                          clear H
                          have H := H1
                          clear H1
                          exact absurd H (by simp)
                    · rw [if_neg c28] at H
                      exact absurd H (by simp)
                  · rw [if_neg c27] at H
                    exact absurd H (by simp)
                · rw [if_neg c26] at H
                  exact absurd H (by simp)
              · rw [if_neg c25] at H
                exact absurd H (by simp)
            · rw [if_neg c24] at H
              exact absurd H (by simp)
          · replace c23 := Bool.eq_false_iff.mpr c23
            subst c23
            have H1 : (none) = some r := by rw [if_neg (show ¬ (false = true) by decide)] at H; exact H
            clear H
            have H := H1
            clear H1
            exact absurd H (by simp)

end Go.Proofs.Ythoigncoojcanaa.PAll
