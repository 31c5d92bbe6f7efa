-- Written for this claim by wip/tools of this repo (after the kit's print; own contracts laid in).
import Derived.Test.YthoigncoojcanaaPAllx0
import Derived.Test.YthoigncoojcanaaPAllx1
import Derived.Test.YthoigncoojcanaaPAllx5
import Derived.Test.YthoigncoojcanaaPAllx6
import Derived.Test.YthoigncoojcanaaPAllx8
import Derived.Test.YthoigncoojcanaaPAllx10
namespace Go.Proofs.Ythoigncoojcanaa.PAll
open Go.RowKit Go.Proofs.YthoigncoojcanaaW.PrintWords Go.Proofs.YthoigncoojcanaaW.PrintLast Go.Proofs.YthoigncoojcanaaW.PrintMore
attribute [local go_sem] max2_int min2_int max_two min_two max_three min_three max_four min_four   -- for this text's walks alone
set_option linter.unusedVariables false
set_option linter.unusedSimpArgs false

attribute [local go_sem high] eqA24
/-! ### epactlaw25_SmearNear: function 5 -/
def epactlaw25_SmearNear.j0 : Nat → List (S53) → Bool → Int → Int → Bool → Int → Int → Int → Int → Int → Int → Option (Bool)
  | 0, _, _, _, _, _, _, _, _, _, _, _ => none
  | k + 1, x0, x5, x7, x9, x37, x341000, x341001, x346000, x346001, x350000, x350001 => if x37 = true then (if x5 = true then (if x7 = x9 then (some (x350000 == 0 && (x350001 == 0))) else (none)) else (none)) else ((smear_Window.f k x0 x341000).bind fun bt350 => ((epactlaw25_apart.f x346000 x346001 x350000 x350001).bind fun t353 => (if x5 = true then (if t353 ≥ (-1000000000) then (if t353 ≤ 1000000000 then (if bt350.2.2 = true then (some true) else (some (x346000 == x350000 && (x346001 == x350001)))) else (none)) else (none)) else (none))))
def epactlaw25_SmearNear.f (k : Nat) (l0 : List (S53)) (a1_0 : Int) (a1_1 : Int) : Option (Bool) := (epactlaw25_small.f k).bind fun t341 => (if (l0.length : Int) > 150 then (some t341) else ((smear_Smear.f k l0 a1_0 a1_1).bind fun bt342 => ((smear_Plain.f k l0 a1_0 a1_1).bind fun bt346 => (if bt342.2.2 = bt346.2.2 then (epactlaw25_SmearNear.j0 k l0 t341 bt342.2.2 bt346.2.2 (bt342.2.2 != 0) a1_0 a1_1 bt342.1 bt342.2.1 bt346.1 bt346.2.1) else (epactlaw25_SmearNear.j0 k l0 t341 bt342.2.2 bt346.2.2 true a1_0 a1_1 bt342.1 bt342.2.1 bt346.1 bt346.2.1)))))
theorem epactlaw25_SmearNear.mono_l : ∀ k, (∀ y0 y1 y2 y3 y4 y5 y6 y7 y8 y9 y10, LeO (epactlaw25_SmearNear.j0 k y0 y1 y2 y3 y4 y5 y6 y7 y8 y9 y10) (epactlaw25_SmearNear.j0 (k + 1) y0 y1 y2 y3 y4 y5 y6 y7 y8 y9 y10))
  | 0 => fun _ _ _ _ _ _ _ _ _ _ _ r h => by simp [epactlaw25_SmearNear.j0] at h
  | k + 1 => by
    have ih0 := epactlaw25_SmearNear.mono_l k
    · intro y0 y1 y2 y3 y4 y5 y6 y7 y8 y9 y10
      unfold epactlaw25_SmearNear.j0
      repeat' first
      | (with_reducible exact ih0 _ _ _ _ _ _ _ _ _ _ _)
      | (with_reducible exact epactlaw25_small.mono _)
      | (with_reducible exact smear_Plain.mono _ _ _ _)
      | (with_reducible exact smear_Smear.mono _ _ _ _)
      | (with_reducible exact smear_Window.mono _ _ _)
      | (with_reducible exact LeO.refl _)
      | (with_reducible exact LeO.none _)
      | (with_reducible refine LeO.ite ?_ ?_)
      | (with_reducible refine LeO.bind ?_ (fun _ => ?_))
      | exact ih0 _ _ _ _ _ _ _ _ _ _ _
      | exact epactlaw25_small.mono _
      | exact smear_Plain.mono _ _ _ _
      | exact smear_Smear.mono _ _ _ _
      | exact smear_Window.mono _ _ _
      | exact LeO.none _
      | refine LeO.ite ?_ ?_
      | refine LeO.bind ?_ (fun _ => ?_)
theorem epactlaw25_SmearNear.mono : ∀ a0 a1 a2 k, LeO (epactlaw25_SmearNear.f k a0 a1 a2) (epactlaw25_SmearNear.f (k + 1) a0 a1 a2) := by
  intro a0 a1 a2 k
  have ih0 := epactlaw25_SmearNear.mono_l k
  unfold epactlaw25_SmearNear.f
  repeat' first
      | (with_reducible exact ih0 _ _ _ _ _ _ _ _ _ _ _)
      | (with_reducible exact epactlaw25_small.mono _)
      | (with_reducible exact smear_Plain.mono _ _ _ _)
      | (with_reducible exact smear_Smear.mono _ _ _ _)
      | (with_reducible exact smear_Window.mono _ _ _)
      | (with_reducible exact LeO.refl _)
      | (with_reducible exact LeO.none _)
      | (with_reducible refine LeO.ite ?_ ?_)
      | (with_reducible refine LeO.bind ?_ (fun _ => ?_))
      | exact ih0 _ _ _ _ _ _ _ _ _ _ _
      | exact epactlaw25_small.mono _
      | exact smear_Plain.mono _ _ _ _
      | exact smear_Smear.mono _ _ _ _
      | exact smear_Window.mono _ _ _
      | exact LeO.none _
      | refine LeO.ite ?_ ?_
      | refine LeO.bind ?_ (fun _ => ?_)
set_option maxHeartbeats 8000000 in
set_option maxRecDepth 100000 in
theorem epactlaw25_SmearNear.calls (k : Nat) (A0 : Option Addr) (c0 : Nat) (l0 : List (S53)) (a1_0 : Int) (a1_1 : Int) (r : Bool) (w : World) (hr0 : Kd.C k53 w A0 l0.length l0) (hc0 : l0.length ≤ c0) (h : epactlaw25_SmearNear.f k l0 a1_0 a1_1 = some r) :
    Calls Try.prog 5 #[.slice A0 l0.length c0, .agg #[.int .i64 a1_0, .int .i64 a1_1]] w fun e w' => e = .returned (.bool r) ∧ Below w.heap.size w w' := by
  have hu24 := Try.underlying24
  have HR0 := Aside0.mk hr0
  have HC0 := Aside0.mk hc0
  clear hr0 hc0
  have HB := Aside0.mk (Below.refl w.heap.size w)
  have H : ((epactlaw25_small.f k).bind fun t341 => (if (l0.length : Int) > 150 then (some t341) else ((smear_Smear.f k l0 a1_0 a1_1).bind fun bt342 => ((smear_Plain.f k l0 a1_0 a1_1).bind fun bt346 => (if bt342.2.2 = bt346.2.2 then (epactlaw25_SmearNear.j0 k l0 t341 bt342.2.2 bt346.2.2 (bt342.2.2 != 0) a1_0 a1_1 bt342.1 bt342.2.1 bt346.1 bt346.2.1) else (epactlaw25_SmearNear.j0 k l0 t341 bt342.2.2 bt346.2.2 true a1_0 a1_1 bt342.1 bt342.2.1 bt346.1 bt346.2.1)))))) = some r := h
  clear h
  replace H := Option.bind_eq_some_iff.mp H
  obtain ⟨t341, A30, H⟩ := H
  replace H : (if (l0.length : Int) > 150 then (some t341) else ((smear_Smear.f k l0 a1_0 a1_1).bind fun bt342 => ((smear_Plain.f k l0 a1_0 a1_1).bind fun bt346 => (if bt342.2.2 = bt346.2.2 then (epactlaw25_SmearNear.j0 k l0 t341 bt342.2.2 bt346.2.2 (bt342.2.2 != 0) a1_0 a1_1 bt342.1 bt342.2.1 bt346.1 bt346.2.1) else (epactlaw25_SmearNear.j0 k l0 t341 bt342.2.2 bt346.2.2 true a1_0 a1_1 bt342.1 bt342.2.1 bt346.1 bt346.2.1))))) = some r := H
  have A3 := Aside0.mk A30
  clear A30
  by_cases c4 : (l0.length : Int) > 150
  · rw [if_pos c4] at H
    have c4b0 : decide (150 < (l0.length : Int)) = true := decide_eq_true c4
    have c4b1 : decide (150 < l0.length) = true := decide_eq_true (by omega)
    clear c4
    obtain rfl := Option.some.inj H
    go_enter Try.func5, Try.ntmps5
    go_wp2_with (first | ((with_reducible refine gate_dst (N := 3) rfl ?_); refine box_event ?hg (N := 3) ?hd (cs := #[.int .i64 a1_0, .int .i64 a1_1]) (t := 24) ?hr ?_; (case hd => rfl); (case hg => rfl); (case hr => first | (go_simp; done) | (go_simp; rfl)); intro gb340 hg w5 hbox hb; have n0_ := Aside0.mk (below_step (by repeat (first | (with_reducible first | exact HB.out | apply below_alloc | apply pw_below_drewN | apply below_drew1) | exact HB.out)) hb); have n1_ := Aside0.mk (hbox); have n2_ := Aside0.mk ((by rw [hg]; exact (below_size (by repeat (first | (with_reducible first | exact HB.out | apply below_alloc | apply pw_below_drewN | apply below_drew1) | exact HB.out))) : w.heap.size ≤ gb340)); have n3_ := Aside0.mk ((by rw [hg]; exact (below_size (by repeat (first | (with_reducible first | exact HB.out | apply below_alloc | apply pw_below_drewN | apply below_drew1) | exact HB.out))) : w.heap.size ≤ gb340)); clear HB; have HB := n0_; have BK340 := n1_; have GW340 := n2_; have GE340 := n3_; clear n0_ n1_ n2_ n3_; clear hb hbox hg) | ((with_reducible refine gate_callee (f := 10) rfl ?_); refine goesL_ (some 14) rfl rfl Try.func10 (by kernel_rfl) rfl #[] rfl (by (try simp only [List.map_toArray, List.map_cons, List.map_nil]); first | done | rfl | (simp only [List.length_drop, List.length_take]; rfl)) ?_; (with_reducible refine (epactlaw25_small.calls k  t341 _ A3.out).mono ?_); rintro e w6 ⟨rfl, hb⟩; refine ⟨_, rfl, ?_⟩; have n0_ := Aside0.mk (blk_below (g := gb340) (o := .cells #[.int .i64 a1_0, .int .i64 a1_1] 24 (0, 0)) (by (with_reducible repeat (first | refine blk_drewN ?_ _ | refine blk_drew ?_ | refine blk_alloc ?_ _)); exact BK340.out) hb); have n1_ := Aside0.mk (below_step (by repeat (first | (with_reducible first | exact HB.out | apply below_alloc | apply pw_below_drewN | apply below_drew1 | refine below_set ?_ GE340.out) | exact HB.out)) hb); clear BK340; clear HB; have BK340 := n0_; have HB := n1_; clear n0_ n1_; (try clear hb); (try clear hb2); (try clear hk); (try clear hi)))
    go_ret
    exact ⟨by first | rfl | (simp [errW_none, errW_some] <;> rfl) | (simp [*, errW_none, errW_some] <;> rfl), by repeat (first | (with_reducible first | exact HB.out | apply below_alloc | apply pw_below_drewN | apply below_drew1 | refine below_set ?_ GE340.out) | exact HB.out)⟩
  · rw [if_neg c4] at H
    have c4b0 : decide (150 < (l0.length : Int)) = false := decide_eq_false c4
    have c4b1 : decide (150 < l0.length) = false := decide_eq_false (by omega)
    clear c4
    replace H := Option.bind_eq_some_iff.mp H
    obtain ⟨⟨t342, t343, t344⟩, A70, H⟩ := H
    replace H : ((smear_Plain.f k l0 a1_0 a1_1).bind fun bt346 => (if t344 = bt346.2.2 then (epactlaw25_SmearNear.j0 k l0 t341 t344 bt346.2.2 (t344 != 0) a1_0 a1_1 t342 t343 bt346.1 bt346.2.1) else (epactlaw25_SmearNear.j0 k l0 t341 t344 bt346.2.2 true a1_0 a1_1 t342 t343 bt346.1 bt346.2.1))) = some r := H
    have A7 := Aside0.mk A70
    clear A70
    replace H := Option.bind_eq_some_iff.mp H
    obtain ⟨⟨t346, t347, t348⟩, A80, H⟩ := H
    replace H : (if t344 = t348 then (epactlaw25_SmearNear.j0 k l0 t341 t344 t348 (t344 != 0) a1_0 a1_1 t342 t343 t346 t347) else (epactlaw25_SmearNear.j0 k l0 t341 t344 t348 true a1_0 a1_1 t342 t343 t346 t347)) = some r := H
    have A8 := Aside0.mk A80
    clear A80
    have HC9 := Aside0.mk H
    clear H
    go_enter Try.func5, Try.ntmps5
    go_upto_region 6 with (first | ((with_reducible refine gate_dst (N := 3) rfl ?_); refine box_event ?hg (N := 3) ?hd (cs := #[.int .i64 a1_0, .int .i64 a1_1]) (t := 24) ?hr ?_; (case hd => rfl); (case hg => rfl); (case hr => first | (go_simp; done) | (go_simp; rfl)); intro gb340 hg w10 hbox hb; have n0_ := Aside0.mk (below_step (by repeat (first | (with_reducible first | exact HB.out | apply below_alloc | apply pw_below_drewN | apply below_drew1) | exact HB.out)) hb); have n1_ := Aside0.mk (hbox); have n2_ := Aside0.mk ((by rw [hg]; exact (below_size (by repeat (first | (with_reducible first | exact HB.out | apply below_alloc | apply pw_below_drewN | apply below_drew1) | exact HB.out))) : w.heap.size ≤ gb340)); have n3_ := Aside0.mk ((by rw [hg]; exact (below_size (by repeat (first | (with_reducible first | exact HB.out | apply below_alloc | apply pw_below_drewN | apply below_drew1) | exact HB.out))) : w.heap.size ≤ gb340)); clear HB; have HB := n0_; have BK340 := n1_; have GW340 := n2_; have GE340 := n3_; clear n0_ n1_ n2_ n3_; clear hb hbox hg) | ((with_reducible refine gate_callee (f := 10) rfl ?_); refine goesL_ (some 14) rfl rfl Try.func10 (by kernel_rfl) rfl #[] rfl (by (try simp only [List.map_toArray, List.map_cons, List.map_nil]); first | done | rfl | (simp only [List.length_drop, List.length_take]; rfl)) ?_; (with_reducible refine (epactlaw25_small.calls k  t341 _ A3.out).mono ?_); rintro e w11 ⟨rfl, hb⟩; refine ⟨_, rfl, ?_⟩; have n0_ := Aside0.mk (blk_below (g := gb340) (o := .cells #[.int .i64 a1_0, .int .i64 a1_1] 24 (0, 0)) (by (with_reducible repeat (first | refine blk_drewN ?_ _ | refine blk_drew ?_ | refine blk_alloc ?_ _)); exact BK340.out) hb); have n1_ := Aside0.mk (below_step (by repeat (first | (with_reducible first | exact HB.out | apply below_alloc | apply pw_below_drewN | apply below_drew1 | refine below_set ?_ GE340.out) | exact HB.out)) hb); clear BK340; clear HB; have BK340 := n0_; have HB := n1_; clear n0_ n1_; (try clear hb); (try clear hb2); (try clear hk); (try clear hi); have hcz12_0 : w11.cell? ⟨gb340, 0, none⟩ = some (.int .i64 a1_0) := (blk_cell BK340.out 0).trans rfl; have hcz12_1 : w11.cell? ⟨gb340, 1, none⟩ = some (.int .i64 a1_1) := (blk_cell BK340.out 1).trans rfl; have hfz12_0 := blk_frozen BK340.out 0; have hfz12_1 := blk_frozen BK340.out 1) | ((with_reducible refine gate_callee (f := 13) rfl ?_); refine goesL_ (some 22) rfl rfl Try.func13 (by kernel_rfl) rfl #[.slice A0 l0.length c0, .agg #[.int .i64 a1_0, .int .i64 a1_1]] rfl (by (try simp only [List.map_toArray, List.map_cons, List.map_nil]); first | done | rfl | (simp only [List.length_drop, List.length_take]; rfl)) ?_; (with_reducible refine (smear_Smear.calls k _ _ l0 a1_0 a1_1 t342 t343 t344 _ ?side1 ?side2 A7.out).mono ?_); (case side1 => repeat (first | exact (Kd.C_below HR0.out HB.out) | (with_reducible refine Kd.C_alloc ?_ _) | (with_reducible refine Kd.C_drewN ?_ _) | (with_reducible refine Kd.C_drew ?_))); (case side2 => exact HC0.out); rintro e w13 ⟨rfl, hb⟩; refine ⟨_, rfl, ?_⟩; have n0_ := Aside0.mk (blk_below (g := gb340) (o := .cells #[.int .i64 a1_0, .int .i64 a1_1] 24 (0, 0)) (by (with_reducible repeat (first | refine blk_drewN ?_ _ | refine blk_drew ?_ | refine blk_alloc ?_ _)); exact BK340.out) hb); have n1_ := Aside0.mk (below_step (by repeat (first | (with_reducible first | exact HB.out | apply below_alloc | apply pw_below_drewN | apply below_drew1 | refine below_set ?_ GE340.out) | exact HB.out)) hb); clear BK340; clear HB; have BK340 := n0_; have HB := n1_; clear n0_ n1_; (try clear hb); (try clear hb2); (try clear hk); (try clear hi)) | ((with_reducible refine gate_dst (N := 6) rfl ?_); refine box_event ?hg (N := 6) ?hd (cs := #[.int .i64 0, .int .i64 0]) (t := 24) ?hr ?_; (case hd => rfl); (case hg => rfl); (case hr => first | (go_simp; done) | (go_simp; rfl)); intro gb345 hg w14 hbox hb; have n0_ := Aside0.mk (blk_below (g := gb340) (o := .cells #[.int .i64 a1_0, .int .i64 a1_1] 24 (0, 0)) (by (with_reducible repeat (first | refine blk_drewN ?_ _ | refine blk_drew ?_ | refine blk_alloc ?_ _)); exact BK340.out) hb); have n1_ := Aside0.mk (below_step (by repeat (first | (with_reducible first | exact HB.out | apply below_alloc | apply pw_below_drewN | apply below_drew1 | refine below_set ?_ GE340.out) | exact HB.out)) hb); have n2_ := Aside0.mk (hbox); have n3_ := Aside0.mk ((by rw [hg]; exact (below_size (by repeat (first | (with_reducible first | exact HB.out | apply below_alloc | apply pw_below_drewN | apply below_drew1 | refine below_set ?_ GE340.out) | exact HB.out))) : w.heap.size ≤ gb345)); have n4_ := Aside0.mk ((by rw [hg]; exact (below_size (by repeat (first | (with_reducible first | exact HB.out | apply below_alloc | apply pw_below_drewN | apply below_drew1 | refine below_set ?_ GE340.out) | exact HB.out))) : w.heap.size ≤ gb345)); have n5_ := Aside0.mk ((by rw [hg]; exact Nat.ne_of_lt (blk_lt (g := gb340) (o := .cells #[.int .i64 a1_0, .int .i64 a1_1] 24 (0, 0)) (by (with_reducible repeat (first | refine blk_drewN ?_ _ | refine blk_drew ?_ | refine blk_alloc ?_ _)); exact BK340.out)) : gb340 ≠ gb345)); have n6_ := Aside0.mk ((by rw [hg]; exact Nat.ne_of_gt (blk_lt (g := gb340) (o := .cells #[.int .i64 a1_0, .int .i64 a1_1] 24 (0, 0)) (by (with_reducible repeat (first | refine blk_drewN ?_ _ | refine blk_drew ?_ | refine blk_alloc ?_ _)); exact BK340.out)) : gb345 ≠ gb340)); clear BK340; clear HB; have BK340 := n0_; have HB := n1_; have BK345 := n2_; have GW345 := n3_; have GE345 := n4_; have NB340_345 := n5_; have NB345_340 := n6_; clear n0_ n1_ n2_ n3_ n4_ n5_ n6_; clear hb hbox hg; have hnb15 := NB345_340.out; have hnc15 := NB340_345.out; have hcz16_0 : w14.cell? ⟨gb345, 0, none⟩ = some (.int .i64 0) := (blk_cell BK345.out 0).trans rfl; have hcz16_1 : w14.cell? ⟨gb345, 1, none⟩ = some (.int .i64 0) := (blk_cell BK345.out 1).trans rfl; have hfz16_0 := blk_frozen BK345.out 0; have hfz16_1 := blk_frozen BK345.out 1; have hcz17_0 : w14.cell? ⟨gb340, 0, none⟩ = some (.int .i64 a1_0) := (blk_cell BK340.out 0).trans rfl; have hcz17_1 : w14.cell? ⟨gb340, 1, none⟩ = some (.int .i64 a1_1) := (blk_cell BK340.out 1).trans rfl; have hfz17_0 := blk_frozen BK340.out 0; have hfz17_1 := blk_frozen BK340.out 1) | ((with_reducible refine gate_callee (f := 17) rfl ?_); refine goesL_ (some 28) rfl rfl Try.func17 (by kernel_rfl) rfl #[.slice A0 l0.length c0, .agg #[.int .i64 a1_0, .int .i64 a1_1]] rfl (by (try simp only [List.map_toArray, List.map_cons, List.map_nil]); first | done | rfl | (simp only [List.length_drop, List.length_take]; rfl)) ?_; (with_reducible refine (smear_Plain.calls k _ _ l0 a1_0 a1_1 t346 t347 t348 _ ?side1 ?side2 A8.out).mono ?_); (case side1 => exact Kd.C_below HR0.out (by repeat (first | (with_reducible first | exact HB.out | apply below_alloc | apply pw_below_drewN | apply below_drew1 | refine below_set ?_ GE340.out | refine below_set ?_ GE345.out) | exact HB.out))); (case side2 => exact HC0.out); rintro e w18 ⟨rfl, hb⟩; refine ⟨_, rfl, ?_⟩; have n0_ := Aside0.mk (blk_below (g := gb340) (o := .cells #[.int .i64 a1_0, .int .i64 a1_1] 24 (0, 0)) (by (with_reducible repeat (first | refine blk_drewN ?_ _ | refine blk_drew ?_ | refine blk_alloc ?_ _)); refine blk_far ?_ NB340_345.out _; (with_reducible repeat (first | refine blk_drewN ?_ _ | refine blk_drew ?_ | refine blk_alloc ?_ _)); refine blk_far ?_ NB340_345.out _; (with_reducible repeat (first | refine blk_drewN ?_ _ | refine blk_drew ?_ | refine blk_alloc ?_ _)); exact BK340.out) hb); have n1_ := Aside0.mk (blk_below (g := gb345) (o := .cells #[.int .i64 t342, .int .i64 t343] 24 (0, 0)) (by (with_reducible repeat (first | refine blk_drewN ?_ _ | refine blk_drew ?_ | refine blk_alloc ?_ _)); refine blk_put (cs := #[.int .i64 t342, .int .i64 0]) ?_ 1 _ rfl; (with_reducible repeat (first | refine blk_drewN ?_ _ | refine blk_drew ?_ | refine blk_alloc ?_ _)); refine blk_put (cs := #[.int .i64 0, .int .i64 0]) ?_ 0 _ rfl; (with_reducible repeat (first | refine blk_drewN ?_ _ | refine blk_drew ?_ | refine blk_alloc ?_ _)); exact BK345.out) hb); have n2_ := Aside0.mk (below_step (by repeat (first | (with_reducible first | exact HB.out | apply below_alloc | apply pw_below_drewN | apply below_drew1 | refine below_set ?_ GE340.out | refine below_set ?_ GE345.out) | exact HB.out)) hb); clear BK340; clear BK345; clear HB; have BK340 := n0_; have BK345 := n1_; have HB := n2_; clear n0_ n1_ n2_; (try clear hb); (try clear hb2); (try clear hk); (try clear hi)) | ((with_reducible refine gate_dst (N := 8) rfl ?_); refine box_event ?hg (N := 8) ?hd (cs := #[.int .i64 0, .int .i64 0]) (t := 24) ?hr ?_; (case hd => rfl); (case hg => rfl); (case hr => first | (go_simp; done) | (go_simp; rfl)); intro gb349 hg w19 hbox hb; have n0_ := Aside0.mk (blk_below (g := gb340) (o := .cells #[.int .i64 a1_0, .int .i64 a1_1] 24 (0, 0)) (by (with_reducible repeat (first | refine blk_drewN ?_ _ | refine blk_drew ?_ | refine blk_alloc ?_ _)); exact BK340.out) hb); have n1_ := Aside0.mk (blk_below (g := gb345) (o := .cells #[.int .i64 t342, .int .i64 t343] 24 (0, 0)) (by (with_reducible repeat (first | refine blk_drewN ?_ _ | refine blk_drew ?_ | refine blk_alloc ?_ _)); exact BK345.out) hb); have n2_ := Aside0.mk (below_step (by repeat (first | (with_reducible first | exact HB.out | apply below_alloc | apply pw_below_drewN | apply below_drew1 | refine below_set ?_ GE340.out | refine below_set ?_ GE345.out) | exact HB.out)) hb); have n3_ := Aside0.mk (hbox); have n4_ := Aside0.mk ((by rw [hg]; exact (below_size (by repeat (first | (with_reducible first | exact HB.out | apply below_alloc | apply pw_below_drewN | apply below_drew1 | refine below_set ?_ GE340.out | refine below_set ?_ GE345.out) | exact HB.out))) : w.heap.size ≤ gb349)); have n5_ := Aside0.mk ((by rw [hg]; exact (below_size (by repeat (first | (with_reducible first | exact HB.out | apply below_alloc | apply pw_below_drewN | apply below_drew1 | refine below_set ?_ GE340.out | refine below_set ?_ GE345.out) | exact HB.out))) : w.heap.size ≤ gb349)); have n6_ := Aside0.mk ((by rw [hg]; exact Nat.ne_of_lt (blk_lt (g := gb340) (o := .cells #[.int .i64 a1_0, .int .i64 a1_1] 24 (0, 0)) (by (with_reducible repeat (first | refine blk_drewN ?_ _ | refine blk_drew ?_ | refine blk_alloc ?_ _)); exact BK340.out)) : gb340 ≠ gb349)); have n7_ := Aside0.mk ((by rw [hg]; exact Nat.ne_of_gt (blk_lt (g := gb340) (o := .cells #[.int .i64 a1_0, .int .i64 a1_1] 24 (0, 0)) (by (with_reducible repeat (first | refine blk_drewN ?_ _ | refine blk_drew ?_ | refine blk_alloc ?_ _)); exact BK340.out)) : gb349 ≠ gb340)); have n8_ := Aside0.mk ((by rw [hg]; exact Nat.ne_of_lt (blk_lt (g := gb345) (o := .cells #[.int .i64 t342, .int .i64 t343] 24 (0, 0)) (by (with_reducible repeat (first | refine blk_drewN ?_ _ | refine blk_drew ?_ | refine blk_alloc ?_ _)); exact BK345.out)) : gb345 ≠ gb349)); have n9_ := Aside0.mk ((by rw [hg]; exact Nat.ne_of_gt (blk_lt (g := gb345) (o := .cells #[.int .i64 t342, .int .i64 t343] 24 (0, 0)) (by (with_reducible repeat (first | refine blk_drewN ?_ _ | refine blk_drew ?_ | refine blk_alloc ?_ _)); exact BK345.out)) : gb349 ≠ gb345)); clear BK340; clear BK345; clear HB; have BK340 := n0_; have BK345 := n1_; have HB := n2_; have BK349 := n3_; have GW349 := n4_; have GE349 := n5_; have NB340_349 := n6_; have NB349_340 := n7_; have NB345_349 := n8_; have NB349_345 := n9_; clear n0_ n1_ n2_ n3_ n4_ n5_ n6_ n7_ n8_ n9_; clear hb hbox hg; have hnb20 := NB349_340.out; have hnc20 := NB340_349.out; have hnb21 := NB349_345.out; have hnc21 := NB345_349.out; have hcz22_0 : w19.cell? ⟨gb349, 0, none⟩ = some (.int .i64 0) := (blk_cell BK349.out 0).trans rfl; have hcz22_1 : w19.cell? ⟨gb349, 1, none⟩ = some (.int .i64 0) := (blk_cell BK349.out 1).trans rfl; have hfz22_0 := blk_frozen BK349.out 0; have hfz22_1 := blk_frozen BK349.out 1))
    (try simp only [Act.put, List.setIfInBounds_toArray, List.set_cons_zero, List.set_cons_succ])
    go_cut [37] (fun v37 wc => ∃ (kq : Nat) (x37_8 : Bool), v37 = .bool x37_8 ∧ Aside0 (epactlaw25_SmearNear.j0 kq l0 t341 t344 t348 x37_8 a1_0 a1_1 t342 t343 t346 t347 = some r) ∧ Aside0 (kq ≤ k) ∧ Aside0 (wc.heap[gb340]? = some (.cells #[.int .i64 a1_0, .int .i64 a1_1] 24 (0, 0))) ∧ Aside0 (wc.heap[gb345]? = some (.cells #[.int .i64 t342, .int .i64 t343] 24 (0, 0))) ∧ Aside0 (wc.heap[gb349]? = some (.cells #[.int .i64 t346, .int .i64 t347] 24 (0, 0))) ∧ Aside0 (Below w.heap.size w wc))
    case first =>
      have H := HC9.out
      clear HC9
      by_cases c23 : t344 = t348
      · rw [if_pos c23] at H
        have c23b0 : (t344 == t348) = true := beq_iff_eq.mpr c23
        have c23b1 : (t344 != t348) = false := bne_eq_false_iff_eq.mpr c23
        clear c23
        (first | rw [c23b0] | (simp only [i64_w, i32_w]; rw [c23b0]) | skip)
        have H' := Aside0.mk H
        clear H
        go_wp2
        go_meet
        case rel => exact ⟨_, ((t344 != 0)), (by first | rfl | (simp; done) | (simp [*]; done)), H', ⟨by first | omega | exact Nat.le_refl _⟩, ⟨by (with_reducible repeat (first | refine blk_drewN ?_ _ | refine blk_drew ?_ | refine blk_alloc ?_ _)); refine blk_far ?_ NB340_349.out _; (with_reducible repeat (first | refine blk_drewN ?_ _ | refine blk_drew ?_ | refine blk_alloc ?_ _)); refine blk_far ?_ NB340_349.out _; (with_reducible repeat (first | refine blk_drewN ?_ _ | refine blk_drew ?_ | refine blk_alloc ?_ _)); exact BK340.out⟩, ⟨by (with_reducible repeat (first | refine blk_drewN ?_ _ | refine blk_drew ?_ | refine blk_alloc ?_ _)); refine blk_far ?_ NB345_349.out _; (with_reducible repeat (first | refine blk_drewN ?_ _ | refine blk_drew ?_ | refine blk_alloc ?_ _)); refine blk_far ?_ NB345_349.out _; (with_reducible repeat (first | refine blk_drewN ?_ _ | refine blk_drew ?_ | refine blk_alloc ?_ _)); exact BK345.out⟩, ⟨by (with_reducible repeat (first | refine blk_drewN ?_ _ | refine blk_drew ?_ | refine blk_alloc ?_ _)); refine blk_put (cs := #[.int .i64 t346, .int .i64 0]) ?_ 1 _ rfl; (with_reducible repeat (first | refine blk_drewN ?_ _ | refine blk_drew ?_ | refine blk_alloc ?_ _)); refine blk_put (cs := #[.int .i64 0, .int .i64 0]) ?_ 0 _ rfl; (with_reducible repeat (first | refine blk_drewN ?_ _ | refine blk_drew ?_ | refine blk_alloc ?_ _)); exact BK349.out⟩, ⟨by repeat (first | (with_reducible first | exact HB.out | apply below_alloc | apply pw_below_drewN | apply below_drew1 | refine below_set ?_ GE340.out | refine below_set ?_ GE345.out | refine below_set ?_ GE349.out) | exact HB.out)⟩⟩
      · rw [if_neg c23] at H
        have c23b0 : (t344 == t348) = false := beq_eq_false_iff_ne.mpr c23
        have c23b1 : (t344 != t348) = true := bne_iff_ne.mpr c23
        (first | rw [c23b0] | (simp only [i64_w, i32_w]; rw [c23b0]) | skip)
        have H' := Aside0.mk H
        clear H
        go_wp2
        go_meet
        case rel => exact ⟨_, (true), (by first | rfl | (simp; done) | (simp [*]; done)), H', ⟨by first | omega | exact Nat.le_refl _⟩, ⟨by (with_reducible repeat (first | refine blk_drewN ?_ _ | refine blk_drew ?_ | refine blk_alloc ?_ _)); refine blk_far ?_ NB340_349.out _; (with_reducible repeat (first | refine blk_drewN ?_ _ | refine blk_drew ?_ | refine blk_alloc ?_ _)); refine blk_far ?_ NB340_349.out _; (with_reducible repeat (first | refine blk_drewN ?_ _ | refine blk_drew ?_ | refine blk_alloc ?_ _)); exact BK340.out⟩, ⟨by (with_reducible repeat (first | refine blk_drewN ?_ _ | refine blk_drew ?_ | refine blk_alloc ?_ _)); refine blk_far ?_ NB345_349.out _; (with_reducible repeat (first | refine blk_drewN ?_ _ | refine blk_drew ?_ | refine blk_alloc ?_ _)); refine blk_far ?_ NB345_349.out _; (with_reducible repeat (first | refine blk_drewN ?_ _ | refine blk_drew ?_ | refine blk_alloc ?_ _)); exact BK345.out⟩, ⟨by (with_reducible repeat (first | refine blk_drewN ?_ _ | refine blk_drew ?_ | refine blk_alloc ?_ _)); refine blk_put (cs := #[.int .i64 t346, .int .i64 0]) ?_ 1 _ rfl; (with_reducible repeat (first | refine blk_drewN ?_ _ | refine blk_drew ?_ | refine blk_alloc ?_ _)); refine blk_put (cs := #[.int .i64 0, .int .i64 0]) ?_ 0 _ rfl; (with_reducible repeat (first | refine blk_drewN ?_ _ | refine blk_drew ?_ | refine blk_alloc ?_ _)); exact BK349.out⟩, ⟨by repeat (first | (with_reducible first | exact HB.out | apply below_alloc | apply pw_below_drewN | apply below_drew1 | refine below_set ?_ GE340.out | refine below_set ?_ GE345.out | refine below_set ?_ GE349.out) | exact HB.out)⟩⟩
    case rest =>
      clear HC9
      try clear c1
      try clear c2
      try clear p2
      try clear c4
      try clear c4b0
      try clear c4b1
      try clear c5
      try clear c10
      try clear c13
      try clear c15
      try clear c17
      try clear c20
      try clear c21
      try clear c23
      try clear c23b0
      try clear c23b1
      try clear hcz12_0
      try clear hcz12_1
      try clear hcz16_0
      try clear hcz16_1
      try clear hcz17_0
      try clear hcz17_1
      try clear hcz22_0
      try clear hcz22_1
      try clear hfz12_0
      try clear hfz12_1
      try clear hfz16_0
      try clear hfz16_1
      try clear hfz17_0
      try clear hfz17_1
      try clear hfz22_0
      try clear hfz22_1
      obtain ⟨kq, x37_8, rfl, HA, HJ8, BK340, BK345, BK349, HB⟩ := hcut
      cases kq with
      | zero => exact absurd HA.out (by simp [epactlaw25_SmearNear.j0])
      | succ kj8 =>
        have H := HA.out
        clear HA
        simp only [epactlaw25_SmearNear.j0] at H
        by_cases c24 : x37_8 = true
        · subst c24
          have H1 : (if t341 = true then (if t344 = t348 then (some (t346 == 0 && (t347 == 0))) else (none)) else (none)) = some r := by rw [if_pos rfl] at H; exact H
          clear H
          have H := H1
          clear H1
          by_cases c25 : t341 = true
          · subst c25
            have H1 : (if t344 = t348 then (some (t346 == 0 && (t347 == 0))) else (none)) = some r := by rw [if_pos rfl] at H; exact H
            clear H
            have H := H1
            clear H1
            by_cases c26 : t344 = t348
            · rw [if_pos c26] at H
              have c26b0 : (t344 == t348) = true := beq_iff_eq.mpr c26
              have c26b1 : (t344 != t348) = false := bne_eq_false_iff_eq.mpr c26
              clear c26
              obtain rfl := Option.some.inj H
              have hnb27 := NB349_340.out
              have hnc27 := NB340_349.out
              have hnb28 := NB349_345.out
              have hnc28 := NB345_349.out
              have hcz29_0 : wc.cell? ⟨gb349, 0, none⟩ = some (.int .i64 t346) := (blk_cell BK349.out 0).trans rfl
              have hcz29_1 : wc.cell? ⟨gb349, 1, none⟩ = some (.int .i64 t347) := (blk_cell BK349.out 1).trans rfl
              have hfz29_0 := blk_frozen BK349.out 0
              have hfz29_1 := blk_frozen BK349.out 1
              go_wp2
              go_ret
              exact ⟨by first | rfl | (simp [errW_none, errW_some] <;> rfl) | (simp [*, errW_none, errW_some] <;> rfl), by repeat (first | (with_reducible first | exact HB.out | apply below_alloc | apply pw_below_drewN | apply below_drew1 | refine below_set ?_ GE340.out | refine below_set ?_ GE345.out | refine below_set ?_ GE349.out) | exact HB.out)⟩
            · rw [if_neg c26] at H
              exact absurd H (by simp)
          · replace c25 := Bool.eq_false_iff.mpr c25
            subst c25
            have H1 : (none) = some r := by rw [if_neg (show ¬ (false = true) by decide)] at H; exact H
            clear H
            have H := H1
            clear H1
            exact absurd H (by simp)
        · replace c24 := Bool.eq_false_iff.mpr c24
          subst c24
          have H1 : ((smear_Window.f kj8 l0 a1_0).bind fun bt350 => ((epactlaw25_apart.f t342 t343 t346 t347).bind fun t353 => (if t341 = true then (if t353 ≥ (-1000000000) then (if t353 ≤ 1000000000 then (if bt350.2.2 = true then (some true) else (some (t342 == t346 && (t343 == t347)))) else (none)) else (none)) else (none)))) = some r := by rw [if_neg (show ¬ (false = true) by decide)] at H; exact H
          clear H
          have H := H1
          clear H1
          replace H := Option.bind_eq_some_iff.mp H
          obtain ⟨⟨t350, t351, t352⟩, A300, H⟩ := H
          replace H : ((epactlaw25_apart.f t342 t343 t346 t347).bind fun t353 => (if t341 = true then (if t353 ≥ (-1000000000) then (if t353 ≤ 1000000000 then (if t352 = true then (some true) else (some (t342 == t346 && (t343 == t347)))) else (none)) else (none)) else (none))) = some r := H
          have A30 := Aside0.mk A300
          clear A300
          replace H := Option.bind_eq_some_iff.mp H
          obtain ⟨t353, A310, H⟩ := H
          replace H : (if t341 = true then (if t353 ≥ (-1000000000) then (if t353 ≤ 1000000000 then (if t352 = true then (some true) else (some (t342 == t346 && (t343 == t347)))) else (none)) else (none)) else (none)) = some r := H
          have A31 := Aside0.mk A310
          clear A310
          by_cases c32 : t341 = true
          · subst c32
            have H1 : (if t353 ≥ (-1000000000) then (if t353 ≤ 1000000000 then (if t352 = true then (some true) else (some (t342 == t346 && (t343 == t347)))) else (none)) else (none)) = some r := by rw [if_pos rfl] at H; exact H
            clear H
            have H := H1
            clear H1
            by_cases c33 : t353 ≥ (-1000000000)
            · rw [if_pos c33] at H
              have c33b0 : decide ((-1000000000) ≤ t353) = true := decide_eq_true c33
              clear c33
              by_cases c34 : t353 ≤ 1000000000
              · rw [if_pos c34] at H
                have c34b0 : decide (t353 ≤ 1000000000) = true := decide_eq_true c34
                clear c34
                by_cases c35 : t352 = true
                · subst c35
                  have H1 : (some true) = some r := by rw [if_pos rfl] at H; exact H
                  clear H
                  have H := H1
                  clear H1
                  obtain rfl := Option.some.inj H
                  have hnb36 := NB340_345.out
                  have hnc36 := NB345_340.out
                  have hnb37 := NB340_349.out
                  have hnc37 := NB349_340.out
                  have hcz38_0 : wc.cell? ⟨gb340, 0, none⟩ = some (.int .i64 a1_0) := (blk_cell BK340.out 0).trans rfl
                  have hcz38_1 : wc.cell? ⟨gb340, 1, none⟩ = some (.int .i64 a1_1) := (blk_cell BK340.out 1).trans rfl
                  have hfz38_0 := blk_frozen BK340.out 0
                  have hfz38_1 := blk_frozen BK340.out 1
                  go_wp2_with (first | ((with_reducible refine gate_callee (f := 11) rfl ?_); refine goesL_ (some 53) rfl rfl Try.func11 (by kernel_rfl) rfl #[.slice A0 l0.length c0, .int .i64 a1_0] rfl (by (try simp only [List.map_toArray, List.map_cons, List.map_nil]); first | done | rfl | (simp only [List.length_drop, List.length_take]; rfl)) ?_; (with_reducible refine (smear_Window.calls kj8 _ _ l0 a1_0 t350 t351 true _ ?side1 ?side2 A30.out).mono ?_); (case side1 => repeat (first | exact (Kd.C_below HR0.out HB.out) | (with_reducible refine Kd.C_alloc ?_ _) | (with_reducible refine Kd.C_drewN ?_ _) | (with_reducible refine Kd.C_drew ?_))); (case side2 => exact HC0.out); rintro e w39 ⟨rfl, hb⟩; refine ⟨_, rfl, ?_⟩; have n0_ := Aside0.mk (blk_below (g := gb340) (o := .cells #[.int .i64 a1_0, .int .i64 a1_1] 24 (0, 0)) (by (with_reducible repeat (first | refine blk_drewN ?_ _ | refine blk_drew ?_ | refine blk_alloc ?_ _)); exact BK340.out) hb); have n1_ := Aside0.mk (blk_below (g := gb345) (o := .cells #[.int .i64 t342, .int .i64 t343] 24 (0, 0)) (by (with_reducible repeat (first | refine blk_drewN ?_ _ | refine blk_drew ?_ | refine blk_alloc ?_ _)); exact BK345.out) hb); have n2_ := Aside0.mk (blk_below (g := gb349) (o := .cells #[.int .i64 t346, .int .i64 t347] 24 (0, 0)) (by (with_reducible repeat (first | refine blk_drewN ?_ _ | refine blk_drew ?_ | refine blk_alloc ?_ _)); exact BK349.out) hb); have n3_ := Aside0.mk (below_step (by repeat (first | (with_reducible first | exact HB.out | apply below_alloc | apply pw_below_drewN | apply below_drew1 | refine below_set ?_ GE340.out | refine below_set ?_ GE345.out | refine below_set ?_ GE349.out) | exact HB.out)) hb); clear BK340; clear BK345; clear BK349; clear HB; have BK340 := n0_; have BK345 := n1_; have BK349 := n2_; have HB := n3_; clear n0_ n1_ n2_ n3_; (try clear hb); (try clear hb2); (try clear hk); (try clear hi); have hnb40 := NB345_349.out; have hnc40 := NB349_345.out; have hcz41_0 : w39.cell? ⟨gb345, 0, none⟩ = some (.int .i64 t342) := (blk_cell BK345.out 0).trans rfl; have hcz41_1 : w39.cell? ⟨gb345, 1, none⟩ = some (.int .i64 t343) := (blk_cell BK345.out 1).trans rfl; have hfz41_0 := blk_frozen BK345.out 0; have hfz41_1 := blk_frozen BK345.out 1; have hcz42_0 : w39.cell? ⟨gb349, 0, none⟩ = some (.int .i64 t346) := (blk_cell BK349.out 0).trans rfl; have hcz42_1 : w39.cell? ⟨gb349, 1, none⟩ = some (.int .i64 t347) := (blk_cell BK349.out 1).trans rfl; have hfz42_0 := blk_frozen BK349.out 0; have hfz42_1 := blk_frozen BK349.out 1) | ((with_reducible refine gate_callee (f := 22) rfl ?_); refine goesL_ (some 59) rfl rfl Try.func22 (by kernel_rfl) rfl #[.agg #[.int .i64 t342, .int .i64 t343], .agg #[.int .i64 t346, .int .i64 t347]] rfl (by (try simp only [List.map_toArray, List.map_cons, List.map_nil]); first | done | rfl | (simp only [List.length_drop, List.length_take]; rfl)) ?_; (with_reducible refine (epactlaw25_apart.calls t342 t343 t346 t347 t353 _ A31.out).mono ?_); rintro e w43 ⟨rfl, hb⟩; refine ⟨_, rfl, ?_⟩; have n0_ := Aside0.mk (blk_below (g := gb340) (o := .cells #[.int .i64 a1_0, .int .i64 a1_1] 24 (0, 0)) (by (with_reducible repeat (first | refine blk_drewN ?_ _ | refine blk_drew ?_ | refine blk_alloc ?_ _)); exact BK340.out) hb); have n1_ := Aside0.mk (blk_below (g := gb345) (o := .cells #[.int .i64 t342, .int .i64 t343] 24 (0, 0)) (by (with_reducible repeat (first | refine blk_drewN ?_ _ | refine blk_drew ?_ | refine blk_alloc ?_ _)); exact BK345.out) hb); have n2_ := Aside0.mk (blk_below (g := gb349) (o := .cells #[.int .i64 t346, .int .i64 t347] 24 (0, 0)) (by (with_reducible repeat (first | refine blk_drewN ?_ _ | refine blk_drew ?_ | refine blk_alloc ?_ _)); exact BK349.out) hb); have n3_ := Aside0.mk (below_step (by repeat (first | (with_reducible first | exact HB.out | apply below_alloc | apply pw_below_drewN | apply below_drew1 | refine below_set ?_ GE340.out | refine below_set ?_ GE345.out | refine below_set ?_ GE349.out) | exact HB.out)) hb); clear BK340; clear BK345; clear BK349; clear HB; have BK340 := n0_; have BK345 := n1_; have BK349 := n2_; have HB := n3_; clear n0_ n1_ n2_ n3_; (try clear hb); (try clear hb2); (try clear hk); (try clear hi)))
                  go_ret
                  exact ⟨by first | rfl | (simp [errW_none, errW_some] <;> rfl) | (simp [*, errW_none, errW_some] <;> rfl), by repeat (first | (with_reducible first | exact HB.out | apply below_alloc | apply pw_below_drewN | apply below_drew1 | refine below_set ?_ GE340.out | refine below_set ?_ GE345.out | refine below_set ?_ GE349.out) | exact HB.out)⟩
                · replace c35 := Bool.eq_false_iff.mpr c35
                  subst c35
                  have H1 : (some (t342 == t346 && (t343 == t347))) = some r := by rw [if_neg (show ¬ (false = true) by decide)] at H; exact H
                  clear H
                  have H := H1
                  clear H1
                  obtain rfl := Option.some.inj H
                  have hnb44 := NB340_345.out
                  have hnc44 := NB345_340.out
                  have hnb45 := NB340_349.out
                  have hnc45 := NB349_340.out
                  have hcz46_0 : wc.cell? ⟨gb340, 0, none⟩ = some (.int .i64 a1_0) := (blk_cell BK340.out 0).trans rfl
                  have hcz46_1 : wc.cell? ⟨gb340, 1, none⟩ = some (.int .i64 a1_1) := (blk_cell BK340.out 1).trans rfl
                  have hfz46_0 := blk_frozen BK340.out 0
                  have hfz46_1 := blk_frozen BK340.out 1
                  go_wp2_with (first | ((with_reducible refine gate_callee (f := 11) rfl ?_); refine goesL_ (some 53) rfl rfl Try.func11 (by kernel_rfl) rfl #[.slice A0 l0.length c0, .int .i64 a1_0] rfl (by (try simp only [List.map_toArray, List.map_cons, List.map_nil]); first | done | rfl | (simp only [List.length_drop, List.length_take]; rfl)) ?_; (with_reducible refine (smear_Window.calls kj8 _ _ l0 a1_0 t350 t351 false _ ?side1 ?side2 A30.out).mono ?_); (case side1 => repeat (first | exact (Kd.C_below HR0.out HB.out) | (with_reducible refine Kd.C_alloc ?_ _) | (with_reducible refine Kd.C_drewN ?_ _) | (with_reducible refine Kd.C_drew ?_))); (case side2 => exact HC0.out); rintro e w47 ⟨rfl, hb⟩; refine ⟨_, rfl, ?_⟩; have n0_ := Aside0.mk (blk_below (g := gb340) (o := .cells #[.int .i64 a1_0, .int .i64 a1_1] 24 (0, 0)) (by (with_reducible repeat (first | refine blk_drewN ?_ _ | refine blk_drew ?_ | refine blk_alloc ?_ _)); exact BK340.out) hb); have n1_ := Aside0.mk (blk_below (g := gb345) (o := .cells #[.int .i64 t342, .int .i64 t343] 24 (0, 0)) (by (with_reducible repeat (first | refine blk_drewN ?_ _ | refine blk_drew ?_ | refine blk_alloc ?_ _)); exact BK345.out) hb); have n2_ := Aside0.mk (blk_below (g := gb349) (o := .cells #[.int .i64 t346, .int .i64 t347] 24 (0, 0)) (by (with_reducible repeat (first | refine blk_drewN ?_ _ | refine blk_drew ?_ | refine blk_alloc ?_ _)); exact BK349.out) hb); have n3_ := Aside0.mk (below_step (by repeat (first | (with_reducible first | exact HB.out | apply below_alloc | apply pw_below_drewN | apply below_drew1 | refine below_set ?_ GE340.out | refine below_set ?_ GE345.out | refine below_set ?_ GE349.out) | exact HB.out)) hb); clear BK340; clear BK345; clear BK349; clear HB; have BK340 := n0_; have BK345 := n1_; have BK349 := n2_; have HB := n3_; clear n0_ n1_ n2_ n3_; (try clear hb); (try clear hb2); (try clear hk); (try clear hi); have hnb48 := NB345_349.out; have hnc48 := NB349_345.out; have hcz49_0 : w47.cell? ⟨gb345, 0, none⟩ = some (.int .i64 t342) := (blk_cell BK345.out 0).trans rfl; have hcz49_1 : w47.cell? ⟨gb345, 1, none⟩ = some (.int .i64 t343) := (blk_cell BK345.out 1).trans rfl; have hfz49_0 := blk_frozen BK345.out 0; have hfz49_1 := blk_frozen BK345.out 1; have hcz50_0 : w47.cell? ⟨gb349, 0, none⟩ = some (.int .i64 t346) := (blk_cell BK349.out 0).trans rfl; have hcz50_1 : w47.cell? ⟨gb349, 1, none⟩ = some (.int .i64 t347) := (blk_cell BK349.out 1).trans rfl; have hfz50_0 := blk_frozen BK349.out 0; have hfz50_1 := blk_frozen BK349.out 1) | ((with_reducible refine gate_callee (f := 22) rfl ?_); refine goesL_ (some 59) rfl rfl Try.func22 (by kernel_rfl) rfl #[.agg #[.int .i64 t342, .int .i64 t343], .agg #[.int .i64 t346, .int .i64 t347]] rfl (by (try simp only [List.map_toArray, List.map_cons, List.map_nil]); first | done | rfl | (simp only [List.length_drop, List.length_take]; rfl)) ?_; (with_reducible refine (epactlaw25_apart.calls t342 t343 t346 t347 t353 _ A31.out).mono ?_); rintro e w51 ⟨rfl, hb⟩; refine ⟨_, rfl, ?_⟩; have n0_ := Aside0.mk (blk_below (g := gb340) (o := .cells #[.int .i64 a1_0, .int .i64 a1_1] 24 (0, 0)) (by (with_reducible repeat (first | refine blk_drewN ?_ _ | refine blk_drew ?_ | refine blk_alloc ?_ _)); exact BK340.out) hb); have n1_ := Aside0.mk (blk_below (g := gb345) (o := .cells #[.int .i64 t342, .int .i64 t343] 24 (0, 0)) (by (with_reducible repeat (first | refine blk_drewN ?_ _ | refine blk_drew ?_ | refine blk_alloc ?_ _)); exact BK345.out) hb); have n2_ := Aside0.mk (blk_below (g := gb349) (o := .cells #[.int .i64 t346, .int .i64 t347] 24 (0, 0)) (by (with_reducible repeat (first | refine blk_drewN ?_ _ | refine blk_drew ?_ | refine blk_alloc ?_ _)); exact BK349.out) hb); have n3_ := Aside0.mk (below_step (by repeat (first | (with_reducible first | exact HB.out | apply below_alloc | apply pw_below_drewN | apply below_drew1 | refine below_set ?_ GE340.out | refine below_set ?_ GE345.out | refine below_set ?_ GE349.out) | exact HB.out)) hb); clear BK340; clear BK345; clear BK349; clear HB; have BK340 := n0_; have BK345 := n1_; have BK349 := n2_; have HB := n3_; clear n0_ n1_ n2_ n3_; (try clear hb); (try clear hb2); (try clear hk); (try clear hi); have hcz52_0 : w51.cell? ⟨gb345, 0, none⟩ = some (.int .i64 t342) := (blk_cell BK345.out 0).trans rfl; have hcz52_1 : w51.cell? ⟨gb345, 1, none⟩ = some (.int .i64 t343) := (blk_cell BK345.out 1).trans rfl; have hfz52_0 := blk_frozen BK345.out 0; have hfz52_1 := blk_frozen BK345.out 1; have hcz53_0 : w51.cell? ⟨gb349, 0, none⟩ = some (.int .i64 t346) := (blk_cell BK349.out 0).trans rfl; have hcz53_1 : w51.cell? ⟨gb349, 1, none⟩ = some (.int .i64 t347) := (blk_cell BK349.out 1).trans rfl; have hfz53_0 := blk_frozen BK349.out 0; have hfz53_1 := blk_frozen BK349.out 1))
                  go_ret
                  exact ⟨by first | rfl | (simp [errW_none, errW_some] <;> rfl) | (simp [*, errW_none, errW_some] <;> rfl), by repeat (first | (with_reducible first | exact HB.out | apply below_alloc | apply pw_below_drewN | apply below_drew1 | refine below_set ?_ GE340.out | refine below_set ?_ GE345.out | refine below_set ?_ GE349.out) | exact HB.out)⟩
              · rw [if_neg c34] at H
                exact absurd H (by simp)
            · rw [if_neg c33] at H
              exact absurd H (by simp)
          · replace c32 := Bool.eq_false_iff.mpr c32
            subst c32
            have H1 : (none) = some r := by rw [if_neg (show ¬ (false = true) by decide)] at H; exact H
            clear H
            have H := H1
            clear H1
            exact absurd H (by simp)

end Go.Proofs.Ythoigncoojcanaa.PAll
