-- Written for this claim by wip/tools of this repo (after the kit's print; own contracts laid in).
import Derived.Test.YtmnkfafnfjpliaaPAllx0
import Derived.Test.YtmnkfafnfjpliaaPAllx2
import Derived.Test.YtmnkfafnfjpliaaPAllx6
namespace Go.Proofs.Ytmnkfafnfjpliaa.PAll
open Go.RowKit Go.Proofs.YtmnkfafnfjpliaaW.PrintWords Go.Proofs.YtmnkfafnfjpliaaW.PrintLast Go.Proofs.YtmnkfafnfjpliaaW.PrintMore
attribute [local go_sem] max2_int min2_int max_two min_two max_three min_three max_four min_four   -- for this text's walks alone
set_option linter.unusedVariables false
set_option linter.unusedSimpArgs false

attribute [local go_sem high] eqA47
/-! ### epactref09_Same: function 23 -/
mutual
def epactref09_Same.j0 : Nat → Bool → List (S47) → Bool → Int → List (S47) → Bool → Int → Option (Bool)
  | 0, _, _, _, _, _, _, _ => none
  | k + 1, x26, x174000, x174001, x174002, x175000, x175001, x175002 => if x26 = true then (some false) else (epactref09_Same.l0 k 0 x174000 x174001 x174002 x175000 x175001 x175002)
def epactref09_Same.l0 : Nat → Int → List (S47) → Bool → Int → List (S47) → Bool → Int → Option (Bool)
  | 0, _, _, _, _, _, _, _ => none
  | k + 1, x5, x174000, x174001, x174002, x175000, x175001, x175002 => if x5 < (x174000.length : Int) then (if 0 ≤ x5 then (if x5 < (x175000.length : Int) then (if (!(((rd_T47 x174000 x5).f0) == ((rd_T47 x175000 x5).f0)) || (!(((rd_T47 x174000 x5).f1) == ((rd_T47 x175000 x5).f1)) || (!(((rd_T47 x174000 x5).f2) == ((rd_T47 x175000 x5).f2))))) = true then (some false) else (epactref09_Same.l0 k (wrap64 (x5 + 1)) x174000 x174001 x174002 x175000 x175001 x175002)) else (none)) else (none)) else (some true)
end
def epactref09_Same.f (k : Nat) (l0_0 : List (S47)) (a0_1 : Bool) (a0_2 : Int) (l1_0 : List (S47)) (a1_1 : Bool) (a1_2 : Int) : Option (Bool) := if (l0_0.length : Int) = (l1_0.length : Int) then (if (a0_1 != a1_1) = true then (epactref09_Same.j0 k true l0_0 a0_1 a0_2 l1_0 a1_1 a1_2) else (epactref09_Same.j0 k (a0_2 != a1_2) l0_0 a0_1 a0_2 l1_0 a1_1 a1_2)) else (epactref09_Same.j0 k true l0_0 a0_1 a0_2 l1_0 a1_1 a1_2)
theorem epactref09_Same.mono_l : ∀ k, (∀ y0 y1 y2 y3 y4 y5 y6, LeO (epactref09_Same.j0 k y0 y1 y2 y3 y4 y5 y6) (epactref09_Same.j0 (k + 1) y0 y1 y2 y3 y4 y5 y6)) ∧ (∀ y0 y1 y2 y3 y4 y5 y6, LeO (epactref09_Same.l0 k y0 y1 y2 y3 y4 y5 y6) (epactref09_Same.l0 (k + 1) y0 y1 y2 y3 y4 y5 y6))
  | 0 => ⟨fun _ _ _ _ _ _ _ r h => by simp [epactref09_Same.j0] at h, fun _ _ _ _ _ _ _ r h => by simp [epactref09_Same.l0] at h⟩
  | k + 1 => by
    obtain ⟨ih0, ih1⟩ := epactref09_Same.mono_l k
    refine ⟨?_, ?_⟩
    · intro y0 y1 y2 y3 y4 y5 y6
      unfold epactref09_Same.j0
      repeat' first
      | (with_reducible exact ih0 _ _ _ _ _ _ _)
      | (with_reducible exact ih1 _ _ _ _ _ _ _)
      | (with_reducible exact LeO.refl _)
      | (with_reducible exact LeO.none _)
      | (with_reducible refine LeO.ite ?_ ?_)
      | (with_reducible refine LeO.bind ?_ (fun _ => ?_))
      | exact ih0 _ _ _ _ _ _ _
      | exact ih1 _ _ _ _ _ _ _
      | exact LeO.none _
      | refine LeO.ite ?_ ?_
      | refine LeO.bind ?_ (fun _ => ?_)
    · intro y0 y1 y2 y3 y4 y5 y6
      unfold epactref09_Same.l0
      repeat' first
      | (with_reducible exact ih0 _ _ _ _ _ _ _)
      | (with_reducible exact ih1 _ _ _ _ _ _ _)
      | (with_reducible exact LeO.refl _)
      | (with_reducible exact LeO.none _)
      | (with_reducible refine LeO.ite ?_ ?_)
      | (with_reducible refine LeO.bind ?_ (fun _ => ?_))
      | exact ih0 _ _ _ _ _ _ _
      | exact ih1 _ _ _ _ _ _ _
      | exact LeO.none _
      | refine LeO.ite ?_ ?_
      | refine LeO.bind ?_ (fun _ => ?_)
theorem epactref09_Same.mono : ∀ a0 a1 a2 a3 a4 a5 k, LeO (epactref09_Same.f k a0 a1 a2 a3 a4 a5) (epactref09_Same.f (k + 1) a0 a1 a2 a3 a4 a5) := by
  intro a0 a1 a2 a3 a4 a5 k
  obtain ⟨ih0, ih1⟩ := epactref09_Same.mono_l k
  unfold epactref09_Same.f
  repeat' first
      | (with_reducible exact ih0 _ _ _ _ _ _ _)
      | (with_reducible exact ih1 _ _ _ _ _ _ _)
      | (with_reducible exact LeO.refl _)
      | (with_reducible exact LeO.none _)
      | (with_reducible refine LeO.ite ?_ ?_)
      | (with_reducible refine LeO.bind ?_ (fun _ => ?_))
      | exact ih0 _ _ _ _ _ _ _
      | exact ih1 _ _ _ _ _ _ _
      | exact LeO.none _
      | refine LeO.ite ?_ ?_
      | refine LeO.bind ?_ (fun _ => ?_)
set_option maxHeartbeats 8000000 in
set_option maxRecDepth 100000 in
theorem epactref09_Same.calls (k : Nat) (A0_0 : Option Addr) (c0_0 : Nat) (l0_0 : List (S47)) (a0_1 : Bool) (a0_2 : Int) (A1_0 : Option Addr) (c1_0 : Nat) (l1_0 : List (S47)) (a1_1 : Bool) (a1_2 : Int) (r : Bool) (w : World) (hr0_0 : Kd.C k47 w A0_0 l0_0.length l0_0) (hc0_0 : l0_0.length ≤ c0_0) (hr1_0 : Kd.C k47 w A1_0 l1_0.length l1_0) (hc1_0 : l1_0.length ≤ c1_0) (h : epactref09_Same.f k l0_0 a0_1 a0_2 l1_0 a1_1 a1_2 = some r) :
    Calls Try.prog 23 #[.agg #[.slice A0_0 l0_0.length c0_0, .bool a0_1, .int .i64 a0_2], .agg #[.slice A1_0 l1_0.length c1_0, .bool a1_1, .int .i64 a1_2]] w fun e w' => e = .returned (.bool r) ∧ Below w.heap.size w w' := by
  have hu24 := Try.underlying24
  have hu47 := Try.underlying47
  have HR0_0 := Aside0.mk hr0_0
  have HC0_0 := Aside0.mk hc0_0
  clear hr0_0 hc0_0
  have HR1_0 := Aside0.mk hr1_0
  have HC1_0 := Aside0.mk hc1_0
  clear hr1_0 hc1_0
  have HB := Aside0.mk (Below.refl w.heap.size w)
  have H : (if (l0_0.length : Int) = (l1_0.length : Int) then (if (a0_1 != a1_1) = true then (epactref09_Same.j0 k true l0_0 a0_1 a0_2 l1_0 a1_1 a1_2) else (epactref09_Same.j0 k (a0_2 != a1_2) l0_0 a0_1 a0_2 l1_0 a1_1 a1_2)) else (epactref09_Same.j0 k true l0_0 a0_1 a0_2 l1_0 a1_1 a1_2)) = some r := h
  clear h
  have HC3 := Aside0.mk H
  clear H
  go_enter Try.func23, Try.ntmps23
  go_upto_region 1 with (first | ((with_reducible refine gate_dst (N := 2) rfl ?_); refine box_event ?hg (N := 2) ?hd (cs := #[.slice A0_0 l0_0.length c0_0, .bool a0_1, .int .i64 a0_2]) (t := 24) ?hr ?_; (case hd => rfl); (case hg => rfl); (case hr => first | (go_simp; done) | (go_simp; rfl)); intro gb173 hg w4 hbox hb; have n0_ := Aside0.mk (below_step (by repeat (first | (with_reducible first | exact HB.out | apply below_alloc | apply pw_below_drewN | apply below_drew1) | exact HB.out)) hb); have n1_ := Aside0.mk (hbox); have n2_ := Aside0.mk ((by rw [hg]; exact (below_size (by repeat (first | (with_reducible first | exact HB.out | apply below_alloc | apply pw_below_drewN | apply below_drew1) | exact HB.out))) : w.heap.size ≤ gb173)); have n3_ := Aside0.mk ((by rw [hg]; exact (below_size (by repeat (first | (with_reducible first | exact HB.out | apply below_alloc | apply pw_below_drewN | apply below_drew1) | exact HB.out))) : w.heap.size ≤ gb173)); clear HB; have HB := n0_; have BK173 := n1_; have GW173 := n2_; have GE173 := n3_; clear n0_ n1_ n2_ n3_; clear hb hbox hg) | ((with_reducible refine gate_dst (N := 3) rfl ?_); refine box_event ?hg (N := 3) ?hd (cs := #[.slice A1_0 l1_0.length c1_0, .bool a1_1, .int .i64 a1_2]) (t := 24) ?hr ?_; (case hd => rfl); (case hg => rfl); (case hr => first | (go_simp; done) | (go_simp; rfl)); intro gb174 hg w5 hbox hb; have n0_ := Aside0.mk (blk_below (g := gb173) (o := .cells #[.slice A0_0 l0_0.length c0_0, .bool a0_1, .int .i64 a0_2] 24 (0, 0)) (by (with_reducible repeat (first | refine blk_drewN ?_ _ | refine blk_drew ?_ | refine blk_alloc ?_ _)); exact BK173.out) hb); have n1_ := Aside0.mk (below_step (by repeat (first | (with_reducible first | exact HB.out | apply below_alloc | apply pw_below_drewN | apply below_drew1 | refine below_set ?_ GE173.out) | exact HB.out)) hb); have n2_ := Aside0.mk (hbox); have n3_ := Aside0.mk ((by rw [hg]; exact (below_size (by repeat (first | (with_reducible first | exact HB.out | apply below_alloc | apply pw_below_drewN | apply below_drew1 | refine below_set ?_ GE173.out) | exact HB.out))) : w.heap.size ≤ gb174)); have n4_ := Aside0.mk ((by rw [hg]; exact (below_size (by repeat (first | (with_reducible first | exact HB.out | apply below_alloc | apply pw_below_drewN | apply below_drew1 | refine below_set ?_ GE173.out) | exact HB.out))) : w.heap.size ≤ gb174)); have n5_ := Aside0.mk ((by rw [hg]; exact Nat.ne_of_lt (blk_lt (g := gb173) (o := .cells #[.slice A0_0 l0_0.length c0_0, .bool a0_1, .int .i64 a0_2] 24 (0, 0)) (by (with_reducible repeat (first | refine blk_drewN ?_ _ | refine blk_drew ?_ | refine blk_alloc ?_ _)); exact BK173.out)) : gb173 ≠ gb174)); have n6_ := Aside0.mk ((by rw [hg]; exact Nat.ne_of_gt (blk_lt (g := gb173) (o := .cells #[.slice A0_0 l0_0.length c0_0, .bool a0_1, .int .i64 a0_2] 24 (0, 0)) (by (with_reducible repeat (first | refine blk_drewN ?_ _ | refine blk_drew ?_ | refine blk_alloc ?_ _)); exact BK173.out)) : gb174 ≠ gb173)); clear BK173; clear HB; have BK173 := n0_; have HB := n1_; have BK174 := n2_; have GW174 := n3_; have GE174 := n4_; have NB173_174 := n5_; have NB174_173 := n6_; clear n0_ n1_ n2_ n3_ n4_ n5_ n6_; clear hb hbox hg))
  repeat (go_quiet (first | ((with_reducible refine gate_dst (N := 2) rfl ?_); refine box_event ?hg (N := 2) ?hd (cs := #[.slice A0_0 l0_0.length c0_0, .bool a0_1, .int .i64 a0_2]) (t := 24) ?hr ?_; (case hd => rfl); (case hg => rfl); (case hr => first | (go_simp; done) | (go_simp; rfl)); intro gb173 hg w4 hbox hb; have n0_ := Aside0.mk (below_step (by repeat (first | (with_reducible first | exact HB.out | apply below_alloc | apply pw_below_drewN | apply below_drew1) | exact HB.out)) hb); have n1_ := Aside0.mk (hbox); have n2_ := Aside0.mk ((by rw [hg]; exact (below_size (by repeat (first | (with_reducible first | exact HB.out | apply below_alloc | apply pw_below_drewN | apply below_drew1) | exact HB.out))) : w.heap.size ≤ gb173)); have n3_ := Aside0.mk ((by rw [hg]; exact (below_size (by repeat (first | (with_reducible first | exact HB.out | apply below_alloc | apply pw_below_drewN | apply below_drew1) | exact HB.out))) : w.heap.size ≤ gb173)); clear HB; have HB := n0_; have BK173 := n1_; have GW173 := n2_; have GE173 := n3_; clear n0_ n1_ n2_ n3_; clear hb hbox hg) | ((with_reducible refine gate_dst (N := 3) rfl ?_); refine box_event ?hg (N := 3) ?hd (cs := #[.slice A1_0 l1_0.length c1_0, .bool a1_1, .int .i64 a1_2]) (t := 24) ?hr ?_; (case hd => rfl); (case hg => rfl); (case hr => first | (go_simp; done) | (go_simp; rfl)); intro gb174 hg w5 hbox hb; have n0_ := Aside0.mk (blk_below (g := gb173) (o := .cells #[.slice A0_0 l0_0.length c0_0, .bool a0_1, .int .i64 a0_2] 24 (0, 0)) (by (with_reducible repeat (first | refine blk_drewN ?_ _ | refine blk_drew ?_ | refine blk_alloc ?_ _)); exact BK173.out) hb); have n1_ := Aside0.mk (below_step (by repeat (first | (with_reducible first | exact HB.out | apply below_alloc | apply pw_below_drewN | apply below_drew1 | refine below_set ?_ GE173.out) | exact HB.out)) hb); have n2_ := Aside0.mk (hbox); have n3_ := Aside0.mk ((by rw [hg]; exact (below_size (by repeat (first | (with_reducible first | exact HB.out | apply below_alloc | apply pw_below_drewN | apply below_drew1 | refine below_set ?_ GE173.out) | exact HB.out))) : w.heap.size ≤ gb174)); have n4_ := Aside0.mk ((by rw [hg]; exact (below_size (by repeat (first | (with_reducible first | exact HB.out | apply below_alloc | apply pw_below_drewN | apply below_drew1 | refine below_set ?_ GE173.out) | exact HB.out))) : w.heap.size ≤ gb174)); have n5_ := Aside0.mk ((by rw [hg]; exact Nat.ne_of_lt (blk_lt (g := gb173) (o := .cells #[.slice A0_0 l0_0.length c0_0, .bool a0_1, .int .i64 a0_2] 24 (0, 0)) (by (with_reducible repeat (first | refine blk_drewN ?_ _ | refine blk_drew ?_ | refine blk_alloc ?_ _)); exact BK173.out)) : gb173 ≠ gb174)); have n6_ := Aside0.mk ((by rw [hg]; exact Nat.ne_of_gt (blk_lt (g := gb173) (o := .cells #[.slice A0_0 l0_0.length c0_0, .bool a0_1, .int .i64 a0_2] 24 (0, 0)) (by (with_reducible repeat (first | refine blk_drewN ?_ _ | refine blk_drew ?_ | refine blk_alloc ?_ _)); exact BK173.out)) : gb174 ≠ gb173)); clear BK173; clear HB; have BK173 := n0_; have HB := n1_; have BK174 := n2_; have GW174 := n3_; have GE174 := n4_; have NB173_174 := n5_; have NB174_173 := n6_; clear n0_ n1_ n2_ n3_ n4_ n5_ n6_; clear hb hbox hg)); go_upto_region 1 with (first | ((with_reducible refine gate_dst (N := 2) rfl ?_); refine box_event ?hg (N := 2) ?hd (cs := #[.slice A0_0 l0_0.length c0_0, .bool a0_1, .int .i64 a0_2]) (t := 24) ?hr ?_; (case hd => rfl); (case hg => rfl); (case hr => first | (go_simp; done) | (go_simp; rfl)); intro gb173 hg w4 hbox hb; have n0_ := Aside0.mk (below_step (by repeat (first | (with_reducible first | exact HB.out | apply below_alloc | apply pw_below_drewN | apply below_drew1) | exact HB.out)) hb); have n1_ := Aside0.mk (hbox); have n2_ := Aside0.mk ((by rw [hg]; exact (below_size (by repeat (first | (with_reducible first | exact HB.out | apply below_alloc | apply pw_below_drewN | apply below_drew1) | exact HB.out))) : w.heap.size ≤ gb173)); have n3_ := Aside0.mk ((by rw [hg]; exact (below_size (by repeat (first | (with_reducible first | exact HB.out | apply below_alloc | apply pw_below_drewN | apply below_drew1) | exact HB.out))) : w.heap.size ≤ gb173)); clear HB; have HB := n0_; have BK173 := n1_; have GW173 := n2_; have GE173 := n3_; clear n0_ n1_ n2_ n3_; clear hb hbox hg) | ((with_reducible refine gate_dst (N := 3) rfl ?_); refine box_event ?hg (N := 3) ?hd (cs := #[.slice A1_0 l1_0.length c1_0, .bool a1_1, .int .i64 a1_2]) (t := 24) ?hr ?_; (case hd => rfl); (case hg => rfl); (case hr => first | (go_simp; done) | (go_simp; rfl)); intro gb174 hg w5 hbox hb; have n0_ := Aside0.mk (blk_below (g := gb173) (o := .cells #[.slice A0_0 l0_0.length c0_0, .bool a0_1, .int .i64 a0_2] 24 (0, 0)) (by (with_reducible repeat (first | refine blk_drewN ?_ _ | refine blk_drew ?_ | refine blk_alloc ?_ _)); exact BK173.out) hb); have n1_ := Aside0.mk (below_step (by repeat (first | (with_reducible first | exact HB.out | apply below_alloc | apply pw_below_drewN | apply below_drew1 | refine below_set ?_ GE173.out) | exact HB.out)) hb); have n2_ := Aside0.mk (hbox); have n3_ := Aside0.mk ((by rw [hg]; exact (below_size (by repeat (first | (with_reducible first | exact HB.out | apply below_alloc | apply pw_below_drewN | apply below_drew1 | refine below_set ?_ GE173.out) | exact HB.out))) : w.heap.size ≤ gb174)); have n4_ := Aside0.mk ((by rw [hg]; exact (below_size (by repeat (first | (with_reducible first | exact HB.out | apply below_alloc | apply pw_below_drewN | apply below_drew1 | refine below_set ?_ GE173.out) | exact HB.out))) : w.heap.size ≤ gb174)); have n5_ := Aside0.mk ((by rw [hg]; exact Nat.ne_of_lt (blk_lt (g := gb173) (o := .cells #[.slice A0_0 l0_0.length c0_0, .bool a0_1, .int .i64 a0_2] 24 (0, 0)) (by (with_reducible repeat (first | refine blk_drewN ?_ _ | refine blk_drew ?_ | refine blk_alloc ?_ _)); exact BK173.out)) : gb173 ≠ gb174)); have n6_ := Aside0.mk ((by rw [hg]; exact Nat.ne_of_gt (blk_lt (g := gb173) (o := .cells #[.slice A0_0 l0_0.length c0_0, .bool a0_1, .int .i64 a0_2] 24 (0, 0)) (by (with_reducible repeat (first | refine blk_drewN ?_ _ | refine blk_drew ?_ | refine blk_alloc ?_ _)); exact BK173.out)) : gb174 ≠ gb173)); clear BK173; clear HB; have BK173 := n0_; have HB := n1_; have BK174 := n2_; have GW174 := n3_; have GE174 := n4_; have NB173_174 := n5_; have NB174_173 := n6_; clear n0_ n1_ n2_ n3_ n4_ n5_ n6_; clear hb hbox hg)))
  (try simp only [Act.put, List.setIfInBounds_toArray, List.set_cons_zero, List.set_cons_succ])
  go_cut [26] (fun v26 wc => ∃ (kq : Nat) (x26_2 : Bool), v26 = .bool x26_2 ∧ Aside0 (epactref09_Same.j0 kq x26_2 l0_0 a0_1 a0_2 l1_0 a1_1 a1_2 = some r) ∧ Aside0 (kq ≤ k) ∧ Aside0 (wc.heap[gb173]? = some (.cells #[(.slice A0_0 l0_0.length c0_0), .bool a0_1, .int .i64 a0_2] 24 (0, 0))) ∧ Aside0 (wc.heap[gb174]? = some (.cells #[(.slice A1_0 l1_0.length c1_0), .bool a1_1, .int .i64 a1_2] 24 (0, 0))) ∧ Aside0 (Below w.heap.size w wc))
  case first =>
    have H := HC3.out
    clear HC3
    by_cases c6 : (l0_0.length : Int) = (l1_0.length : Int)
    · rw [if_pos c6] at H
      have c6b0 : ((l0_0.length : Int) == (l1_0.length : Int)) = true := beq_iff_eq.mpr c6
      have c6b1 : ((l0_0.length : Int) != (l1_0.length : Int)) = false := bne_eq_false_iff_eq.mpr c6
      have c6b2 : (l0_0.length == l1_0.length) = true := by first | simpa using c6 | (simp at c6 ⊢; omega)
      clear c6
      (first | rw [c6b0] | (simp only [i64_w, i32_w]; rw [c6b0]) | skip)
      by_cases c7 : (a0_1 != a1_1) = true
      · rw [if_pos c7] at H
        have c7b0 : (a0_1 != a1_1) = true := c7
        (try (have c7b1 : decide (a0_1 = a1_1) = false := by first | (simp; done) | (simp at c7; done) | simpa using c7))
        (try (have c7b2 : (a0_1 == a1_1) = false := by first | (simp; done) | (simp at c7; done) | simpa using c7))
        (try (have c7b3 : ¬ (a0_1 = a1_1) := by first | (simp; done) | (simp at c7; done) | simpa using c7))
        clear c7
        have H' := Aside0.mk H
        clear H
        have hnb8 := NB173_174.out
        have hnc8 := NB174_173.out
        have hcz9_0 : w5.cell? ⟨gb173, 0, none⟩ = some (.slice A0_0 l0_0.length c0_0) := (blk_cell BK173.out 0).trans rfl
        have hcz9_1 : w5.cell? ⟨gb173, 1, none⟩ = some (.bool a0_1) := (blk_cell BK173.out 1).trans rfl
        have hcz9_2 : w5.cell? ⟨gb173, 2, none⟩ = some (.int .i64 a0_2) := (blk_cell BK173.out 2).trans rfl
        have hfz9_0 := blk_frozen BK173.out 0
        have hfz9_1 := blk_frozen BK173.out 1
        have hfz9_2 := blk_frozen BK173.out 2
        have hcz10_0 : w5.cell? ⟨gb174, 0, none⟩ = some (.slice A1_0 l1_0.length c1_0) := (blk_cell BK174.out 0).trans rfl
        have hcz10_1 : w5.cell? ⟨gb174, 1, none⟩ = some (.bool a1_1) := (blk_cell BK174.out 1).trans rfl
        have hcz10_2 : w5.cell? ⟨gb174, 2, none⟩ = some (.int .i64 a1_2) := (blk_cell BK174.out 2).trans rfl
        have hfz10_0 := blk_frozen BK174.out 0
        have hfz10_1 := blk_frozen BK174.out 1
        have hfz10_2 := blk_frozen BK174.out 2
        go_wp2
        repeat (go_quiet (fail); try go_wp2)
        go_meet
        case rel => exact ⟨_, (true), (by first | rfl | (simp; done) | (simp [*]; done)), H', ⟨by first | omega | exact Nat.le_refl _⟩, ⟨by (with_reducible repeat (first | refine blk_drewN ?_ _ | refine blk_drew ?_ | refine blk_alloc ?_ _)); exact BK173.out⟩, ⟨by (with_reducible repeat (first | refine blk_drewN ?_ _ | refine blk_drew ?_ | refine blk_alloc ?_ _)); exact BK174.out⟩, ⟨by repeat (first | (with_reducible first | exact HB.out | apply below_alloc | apply pw_below_drewN | apply below_drew1 | refine below_set ?_ GE173.out | refine below_set ?_ GE174.out) | exact HB.out)⟩⟩
      · rw [if_neg c7] at H
        have c7b0 : (a0_1 != a1_1) = false := by first | (simp; done) | (simp at c7; done) | simpa using c7
        (try (have c7b1 : decide (a0_1 = a1_1) = true := by first | (simp; done) | (simp at c7; done) | simpa using c7))
        (try (have c7b2 : (a0_1 == a1_1) = true := by first | (simp; done) | (simp at c7; done) | simpa using c7))
        clear c7
        have H' := Aside0.mk H
        clear H
        have hnb11 := NB173_174.out
        have hnc11 := NB174_173.out
        have hcz12_0 : w5.cell? ⟨gb173, 0, none⟩ = some (.slice A0_0 l0_0.length c0_0) := (blk_cell BK173.out 0).trans rfl
        have hcz12_1 : w5.cell? ⟨gb173, 1, none⟩ = some (.bool a0_1) := (blk_cell BK173.out 1).trans rfl
        have hcz12_2 : w5.cell? ⟨gb173, 2, none⟩ = some (.int .i64 a0_2) := (blk_cell BK173.out 2).trans rfl
        have hfz12_0 := blk_frozen BK173.out 0
        have hfz12_1 := blk_frozen BK173.out 1
        have hfz12_2 := blk_frozen BK173.out 2
        have hcz13_0 : w5.cell? ⟨gb174, 0, none⟩ = some (.slice A1_0 l1_0.length c1_0) := (blk_cell BK174.out 0).trans rfl
        have hcz13_1 : w5.cell? ⟨gb174, 1, none⟩ = some (.bool a1_1) := (blk_cell BK174.out 1).trans rfl
        have hcz13_2 : w5.cell? ⟨gb174, 2, none⟩ = some (.int .i64 a1_2) := (blk_cell BK174.out 2).trans rfl
        have hfz13_0 := blk_frozen BK174.out 0
        have hfz13_1 := blk_frozen BK174.out 1
        have hfz13_2 := blk_frozen BK174.out 2
        go_wp2
        repeat (go_quiet (fail); try go_wp2)
        go_meet
        case rel => exact ⟨_, ((a0_2 != a1_2)), (by first | rfl | (simp; done) | (simp [*]; done)), H', ⟨by first | omega | exact Nat.le_refl _⟩, ⟨by (with_reducible repeat (first | refine blk_drewN ?_ _ | refine blk_drew ?_ | refine blk_alloc ?_ _)); exact BK173.out⟩, ⟨by (with_reducible repeat (first | refine blk_drewN ?_ _ | refine blk_drew ?_ | refine blk_alloc ?_ _)); exact BK174.out⟩, ⟨by repeat (first | (with_reducible first | exact HB.out | apply below_alloc | apply pw_below_drewN | apply below_drew1 | refine below_set ?_ GE173.out | refine below_set ?_ GE174.out) | exact HB.out)⟩⟩
    · rw [if_neg c6] at H
      have c6b0 : ((l0_0.length : Int) == (l1_0.length : Int)) = false := beq_eq_false_iff_ne.mpr c6
      have c6b1 : ((l0_0.length : Int) != (l1_0.length : Int)) = true := bne_iff_ne.mpr c6
      have c6b2 : (l0_0.length == l1_0.length) = false := by first | simpa using c6 | (simp at c6 ⊢; omega)
      (first | rw [c6b0] | (simp only [i64_w, i32_w]; rw [c6b0]) | skip)
      have H' := Aside0.mk H
      clear H
      have hnb14 := NB173_174.out
      have hnc14 := NB174_173.out
      have hcz15_0 : w5.cell? ⟨gb173, 0, none⟩ = some (.slice A0_0 l0_0.length c0_0) := (blk_cell BK173.out 0).trans rfl
      have hcz15_1 : w5.cell? ⟨gb173, 1, none⟩ = some (.bool a0_1) := (blk_cell BK173.out 1).trans rfl
      have hcz15_2 : w5.cell? ⟨gb173, 2, none⟩ = some (.int .i64 a0_2) := (blk_cell BK173.out 2).trans rfl
      have hfz15_0 := blk_frozen BK173.out 0
      have hfz15_1 := blk_frozen BK173.out 1
      have hfz15_2 := blk_frozen BK173.out 2
      have hcz16_0 : w5.cell? ⟨gb174, 0, none⟩ = some (.slice A1_0 l1_0.length c1_0) := (blk_cell BK174.out 0).trans rfl
      have hcz16_1 : w5.cell? ⟨gb174, 1, none⟩ = some (.bool a1_1) := (blk_cell BK174.out 1).trans rfl
      have hcz16_2 : w5.cell? ⟨gb174, 2, none⟩ = some (.int .i64 a1_2) := (blk_cell BK174.out 2).trans rfl
      have hfz16_0 := blk_frozen BK174.out 0
      have hfz16_1 := blk_frozen BK174.out 1
      have hfz16_2 := blk_frozen BK174.out 2
      go_wp2
      repeat (go_quiet (fail); try go_wp2)
      go_meet
      case rel => exact ⟨_, (true), (by first | rfl | (simp; done) | (simp [*]; done)), H', ⟨by first | omega | exact Nat.le_refl _⟩, ⟨by (with_reducible repeat (first | refine blk_drewN ?_ _ | refine blk_drew ?_ | refine blk_alloc ?_ _)); exact BK173.out⟩, ⟨by (with_reducible repeat (first | refine blk_drewN ?_ _ | refine blk_drew ?_ | refine blk_alloc ?_ _)); exact BK174.out⟩, ⟨by repeat (first | (with_reducible first | exact HB.out | apply below_alloc | apply pw_below_drewN | apply below_drew1 | refine below_set ?_ GE173.out | refine below_set ?_ GE174.out) | exact HB.out)⟩⟩
  case rest =>
    clear HC3
    try clear c1
    try clear c2
    try clear p2
    try clear c6
    try clear c6b0
    try clear c6b1
    try clear c6b2
    try clear c7
    try clear c7b0
    try clear c7b1
    try clear c7b2
    try clear c8
    try clear c11
    try clear c14
    try clear hcz10_0
    try clear hcz10_1
    try clear hcz10_2
    try clear hcz12_0
    try clear hcz12_1
    try clear hcz12_2
    try clear hcz13_0
    try clear hcz13_1
    try clear hcz13_2
    try clear hcz15_0
    try clear hcz15_1
    try clear hcz15_2
    try clear hcz16_0
    try clear hcz16_1
    try clear hcz16_2
    try clear hcz9_0
    try clear hcz9_1
    try clear hcz9_2
    try clear hfz10_0
    try clear hfz10_1
    try clear hfz10_2
    try clear hfz12_0
    try clear hfz12_1
    try clear hfz12_2
    try clear hfz13_0
    try clear hfz13_1
    try clear hfz13_2
    try clear hfz15_0
    try clear hfz15_1
    try clear hfz15_2
    try clear hfz16_0
    try clear hfz16_1
    try clear hfz16_2
    try clear hfz9_0
    try clear hfz9_1
    try clear hfz9_2
    obtain ⟨kq, x26_2, rfl, HA, HJ2, BK173, BK174, HB⟩ := hcut
    cases kq with
    | zero => exact absurd HA.out (by simp [epactref09_Same.j0])
    | succ kj2 =>
      have H := HA.out
      clear HA
      simp only [epactref09_Same.j0] at H
      by_cases c17 : x26_2 = true
      · subst c17
        have H1 : (some false) = some r := by rw [if_pos rfl] at H; exact H
        clear H
        have H := H1
        clear H1
        obtain rfl := Option.some.inj H
        go_wp2
        repeat (go_quiet (fail); try go_wp2)
        go_ret
        exact ⟨by first | rfl | (simp [errW_none, errW_some] <;> rfl) | (simp [*, errW_none, errW_some] <;> rfl), by repeat (first | (with_reducible first | exact HB.out | apply below_alloc | apply pw_below_drewN | apply below_drew1 | refine below_set ?_ GE173.out | refine below_set ?_ GE174.out) | exact HB.out)⟩
      · replace c17 := Bool.eq_false_iff.mpr c17
        subst c17
        have H1 : (epactref09_Same.l0 kj2 0 l0_0 a0_1 a0_2 l1_0 a1_1 a1_2) = some r := by rw [if_neg (show ¬ (false = true) by decide)] at H; exact H
        clear H
        have H := H1
        clear H1
        have H' := Aside0.mk H
        clear H
        go_wp2
        repeat (go_quiet (fail); try go_wp2)
        go_loopg [5] kj2 (fun kq v5 w' => ∃ (x5_2 : Int), v5 = .int .i64 x5_2 ∧ Aside0 (epactref09_Same.l0 kq x5_2 l0_0 a0_1 a0_2 l1_0 a1_1 a1_2 = some r) ∧ Aside0 (kq ≤ kj2) ∧ Aside0 (w'.heap[gb173]? = some (.cells #[(.slice A0_0 l0_0.length c0_0), .bool a0_1, .int .i64 a0_2] 24 (0, 0))) ∧ Aside0 (w'.heap[gb174]? = some (.cells #[(.slice A1_0 l1_0.length c1_0), .bool a1_1, .int .i64 a1_2] 24 (0, 0))) ∧ Aside0 (Below w.heap.size w w'))
        case atStart => exact ⟨(0), (by first | rfl | (simp; done) | (simp [*]; done)), H', ⟨Nat.le_refl _⟩, ⟨by (with_reducible repeat (first | refine blk_drewN ?_ _ | refine blk_drew ?_ | refine blk_alloc ?_ _)); exact BK173.out⟩, ⟨by (with_reducible repeat (first | refine blk_drewN ?_ _ | refine blk_drew ?_ | refine blk_alloc ?_ _)); exact BK174.out⟩, ⟨by repeat (first | (with_reducible first | exact HB.out | apply below_alloc | apply pw_below_drewN | apply below_drew1 | refine below_set ?_ GE173.out | refine below_set ?_ GE174.out) | exact HB.out)⟩⟩
        case round =>
          clear H'
          try clear c1
          try clear c2
          try clear p2
          try clear c6
          try clear c6b0
          try clear c6b1
          try clear c6b2
          try clear c7
          try clear c7b0
          try clear c7b1
          try clear c7b2
          try clear c8
          try clear c11
          try clear c14
          try clear c17
          try clear hcz10_0
          try clear hcz10_1
          try clear hcz10_2
          try clear hcz12_0
          try clear hcz12_1
          try clear hcz12_2
          try clear hcz13_0
          try clear hcz13_1
          try clear hcz13_2
          try clear hcz15_0
          try clear hcz15_1
          try clear hcz15_2
          try clear hcz16_0
          try clear hcz16_1
          try clear hcz16_2
          try clear hcz9_0
          try clear hcz9_1
          try clear hcz9_2
          try clear hfz10_0
          try clear hfz10_1
          try clear hfz10_2
          try clear hfz12_0
          try clear hfz12_1
          try clear hfz12_2
          try clear hfz13_0
          try clear hfz13_1
          try clear hfz13_2
          try clear hfz15_0
          try clear hfz15_1
          try clear hfz15_2
          try clear hfz16_0
          try clear hfz16_1
          try clear hfz16_2
          try clear hfz9_0
          try clear hfz9_1
          try clear hfz9_2
          try clear p2
          obtain ⟨x5_2, rfl, HA, HK2, BK173, BK174, HB⟩ := hrel
          cases gk with
          | zero => exact absurd HA.out (by simp [epactref09_Same.l0])
          | succ k2 =>
            have H := HA.out
            clear HA
            simp only [epactref09_Same.l0] at H
            by_cases c18 : x5_2 < (l0_0.length : Int)
            · rw [if_pos c18] at H
              have c18b0 : decide (x5_2 < (l0_0.length : Int)) = true := decide_eq_true c18
              clear c18
              by_cases c19 : 0 ≤ x5_2
              · rw [if_pos c19] at H
                have c19b0 : decide (0 ≤ x5_2) = true := decide_eq_true c19
                clear c19
                by_cases c20 : x5_2 < (l1_0.length : Int)
                · rw [if_pos c20] at H
                  have c20b0 : decide (x5_2 < (l1_0.length : Int)) = true := decide_eq_true c20
                  clear c20
                  by_cases c21 : (!(((rd_T47 l0_0 x5_2).f0) == ((rd_T47 l1_0 x5_2).f0)) || (!(((rd_T47 l0_0 x5_2).f1) == ((rd_T47 l1_0 x5_2).f1)) || (!(((rd_T47 l0_0 x5_2).f2) == ((rd_T47 l1_0 x5_2).f2))))) = true
                  · rw [if_pos c21] at H
                    have c21b0 : (!(((rd_T47 l0_0 x5_2).f0) == ((rd_T47 l1_0 x5_2).f0)) || (!(((rd_T47 l0_0 x5_2).f1) == ((rd_T47 l1_0 x5_2).f1)) || (!(((rd_T47 l0_0 x5_2).f2) == ((rd_T47 l1_0 x5_2).f2))))) = true := c21
                    clear c21
                    obtain rfl := Option.some.inj H
                    have hnb22 := NB173_174.out
                    have hnc22 := NB174_173.out
                    have hcz23_0 : wr.cell? ⟨gb173, 0, none⟩ = some (.slice A0_0 l0_0.length c0_0) := (blk_cell BK173.out 0).trans rfl
                    have hcz23_1 : wr.cell? ⟨gb173, 1, none⟩ = some (.bool a0_1) := (blk_cell BK173.out 1).trans rfl
                    have hcz23_2 : wr.cell? ⟨gb173, 2, none⟩ = some (.int .i64 a0_2) := (blk_cell BK173.out 2).trans rfl
                    have hfz23_0 := blk_frozen BK173.out 0
                    have hfz23_1 := blk_frozen BK173.out 1
                    have hfz23_2 := blk_frozen BK173.out 2
                    have p175 : 0 ≤ (x5_2 : Int) := of_decide_eq_true (by first | (with_reducible assumption) | assumption)
                    have q175 : x5_2 < (l0_0.length : Int) := of_decide_eq_true (by first | (with_reducible assumption) | assumption)
                    obtain ⟨ad175, e175, hx175_0, hx175_1, hx175_2⟩ := at_T47 HR0_0.out x5_2 p175 q175
                    cases e175
                    replace hx175_0 := (HB.out.cell (World.block_lt_of_cell? w _ hx175_0)).trans hx175_0
                    replace hx175_1 := (HB.out.cell (World.block_lt_of_cell? w _ hx175_1)).trans hx175_1
                    replace hx175_2 := (HB.out.cell (World.block_lt_of_cell? w _ hx175_2)).trans hx175_2
                    replace p175 := eq_true p175
                    replace q175 := eq_true q175
                    have hcz24_0 : wr.cell? ⟨gb174, 0, none⟩ = some (.slice A1_0 l1_0.length c1_0) := (blk_cell BK174.out 0).trans rfl
                    have hcz24_1 : wr.cell? ⟨gb174, 1, none⟩ = some (.bool a1_1) := (blk_cell BK174.out 1).trans rfl
                    have hcz24_2 : wr.cell? ⟨gb174, 2, none⟩ = some (.int .i64 a1_2) := (blk_cell BK174.out 2).trans rfl
                    have hfz24_0 := blk_frozen BK174.out 0
                    have hfz24_1 := blk_frozen BK174.out 1
                    have hfz24_2 := blk_frozen BK174.out 2
                    have p176 : 0 ≤ (x5_2 : Int) := of_decide_eq_true (by first | (with_reducible assumption) | assumption)
                    have q176 : x5_2 < (l1_0.length : Int) := of_decide_eq_true (by first | (with_reducible assumption) | assumption)
                    obtain ⟨ad176, e176, hx176_0, hx176_1, hx176_2⟩ := at_T47 HR1_0.out x5_2 p176 q176
                    cases e176
                    replace hx176_0 := (HB.out.cell (World.block_lt_of_cell? w _ hx176_0)).trans hx176_0
                    replace hx176_1 := (HB.out.cell (World.block_lt_of_cell? w _ hx176_1)).trans hx176_1
                    replace hx176_2 := (HB.out.cell (World.block_lt_of_cell? w _ hx176_2)).trans hx176_2
                    replace p176 := eq_true p176
                    replace q176 := eq_true q176
                    go_wp2
                    repeat (go_quiet (fail); try go_wp2)
                    go_ret
                    exact ⟨by first | rfl | (simp [errW_none, errW_some] <;> rfl) | (simp [*, errW_none, errW_some] <;> rfl), by repeat (first | (with_reducible first | exact HB.out | apply below_alloc | apply pw_below_drewN | apply below_drew1 | refine below_set ?_ GE173.out | refine below_set ?_ GE174.out) | exact HB.out)⟩
                  · rw [if_neg c21] at H
                    have c21b0 : (!(((rd_T47 l0_0 x5_2).f0) == ((rd_T47 l1_0 x5_2).f0)) || (!(((rd_T47 l0_0 x5_2).f1) == ((rd_T47 l1_0 x5_2).f1)) || (!(((rd_T47 l0_0 x5_2).f2) == ((rd_T47 l1_0 x5_2).f2))))) = false := by first | (simp; done) | (simp at c21; done) | simpa using c21
                    clear c21
                    have H' := Aside0.mk H
                    clear H
                    have hnb25 := NB173_174.out
                    have hnc25 := NB174_173.out
                    have hcz26_0 : wr.cell? ⟨gb173, 0, none⟩ = some (.slice A0_0 l0_0.length c0_0) := (blk_cell BK173.out 0).trans rfl
                    have hcz26_1 : wr.cell? ⟨gb173, 1, none⟩ = some (.bool a0_1) := (blk_cell BK173.out 1).trans rfl
                    have hcz26_2 : wr.cell? ⟨gb173, 2, none⟩ = some (.int .i64 a0_2) := (blk_cell BK173.out 2).trans rfl
                    have hfz26_0 := blk_frozen BK173.out 0
                    have hfz26_1 := blk_frozen BK173.out 1
                    have hfz26_2 := blk_frozen BK173.out 2
                    have p175 : 0 ≤ (x5_2 : Int) := of_decide_eq_true (by first | (with_reducible assumption) | assumption)
                    have q175 : x5_2 < (l0_0.length : Int) := of_decide_eq_true (by first | (with_reducible assumption) | assumption)
                    obtain ⟨ad175, e175, hx175_0, hx175_1, hx175_2⟩ := at_T47 HR0_0.out x5_2 p175 q175
                    cases e175
                    replace hx175_0 := (HB.out.cell (World.block_lt_of_cell? w _ hx175_0)).trans hx175_0
                    replace hx175_1 := (HB.out.cell (World.block_lt_of_cell? w _ hx175_1)).trans hx175_1
                    replace hx175_2 := (HB.out.cell (World.block_lt_of_cell? w _ hx175_2)).trans hx175_2
                    replace p175 := eq_true p175
                    replace q175 := eq_true q175
                    have hcz27_0 : wr.cell? ⟨gb174, 0, none⟩ = some (.slice A1_0 l1_0.length c1_0) := (blk_cell BK174.out 0).trans rfl
                    have hcz27_1 : wr.cell? ⟨gb174, 1, none⟩ = some (.bool a1_1) := (blk_cell BK174.out 1).trans rfl
                    have hcz27_2 : wr.cell? ⟨gb174, 2, none⟩ = some (.int .i64 a1_2) := (blk_cell BK174.out 2).trans rfl
                    have hfz27_0 := blk_frozen BK174.out 0
                    have hfz27_1 := blk_frozen BK174.out 1
                    have hfz27_2 := blk_frozen BK174.out 2
                    have p176 : 0 ≤ (x5_2 : Int) := of_decide_eq_true (by first | (with_reducible assumption) | assumption)
                    have q176 : x5_2 < (l1_0.length : Int) := of_decide_eq_true (by first | (with_reducible assumption) | assumption)
                    obtain ⟨ad176, e176, hx176_0, hx176_1, hx176_2⟩ := at_T47 HR1_0.out x5_2 p176 q176
                    cases e176
                    replace hx176_0 := (HB.out.cell (World.block_lt_of_cell? w _ hx176_0)).trans hx176_0
                    replace hx176_1 := (HB.out.cell (World.block_lt_of_cell? w _ hx176_1)).trans hx176_1
                    replace hx176_2 := (HB.out.cell (World.block_lt_of_cell? w _ hx176_2)).trans hx176_2
                    replace p176 := eq_true p176
                    replace q176 := eq_true q176
                    go_wp2
                    repeat (go_quiet (fail); try go_wp2)
                    go_roundg k2
                    case measure => have := HJ2.out; have := HK2.out; omega
                    case rel => exact ⟨(wrap64 (x5_2 + 1)), (by first | rfl | (simp; done) | (simp [*]; done)), H', ⟨by have := HJ2.out; have := HK2.out; omega⟩, ⟨by (with_reducible repeat (first | refine blk_drewN ?_ _ | refine blk_drew ?_ | refine blk_alloc ?_ _)); exact BK173.out⟩, ⟨by (with_reducible repeat (first | refine blk_drewN ?_ _ | refine blk_drew ?_ | refine blk_alloc ?_ _)); exact BK174.out⟩, ⟨by repeat (first | (with_reducible first | exact HB.out | apply below_alloc | apply pw_below_drewN | apply below_drew1 | refine below_set ?_ GE173.out | refine below_set ?_ GE174.out) | exact HB.out)⟩⟩
                · rw [if_neg c20] at H
                  exact absurd H (by simp)
              · rw [if_neg c19] at H
                exact absurd H (by simp)
            · rw [if_neg c18] at H
              have c18b0 : decide (x5_2 < (l0_0.length : Int)) = false := decide_eq_false c18
              clear c18
              obtain rfl := Option.some.inj H
              have hnb28 := NB173_174.out
              have hnc28 := NB174_173.out
              have hcz29_0 : wr.cell? ⟨gb173, 0, none⟩ = some (.slice A0_0 l0_0.length c0_0) := (blk_cell BK173.out 0).trans rfl
              have hcz29_1 : wr.cell? ⟨gb173, 1, none⟩ = some (.bool a0_1) := (blk_cell BK173.out 1).trans rfl
              have hcz29_2 : wr.cell? ⟨gb173, 2, none⟩ = some (.int .i64 a0_2) := (blk_cell BK173.out 2).trans rfl
              have hfz29_0 := blk_frozen BK173.out 0
              have hfz29_1 := blk_frozen BK173.out 1
              have hfz29_2 := blk_frozen BK173.out 2
              go_wp2
              repeat (go_quiet (fail); try go_wp2)
              go_ret
              exact ⟨by first | rfl | (simp [errW_none, errW_some] <;> rfl) | (simp [*, errW_none, errW_some] <;> rfl), by repeat (first | (with_reducible first | exact HB.out | apply below_alloc | apply pw_below_drewN | apply below_drew1 | refine below_set ?_ GE173.out | refine below_set ?_ GE174.out) | exact HB.out)⟩

-- NOT PRINTED: function 42 (sort_Search)

/-! ### record_Sum: function 24 -/
-- by hand: wip/hand
/-- are records in order? -/
def record_Sum.Asc (l : List S44) : Prop := l.Pairwise (fun x y => x.f0 ≤ y.f0)
instance (l : List S44) : Decidable (record_Sum.Asc l) := by unfold record_Sum.Asc; exact inferInstance
def record_Sum.f (k : Nat) (l0 : List (S44)) (a1 : Int) : Option (Int) := (record_leaps.f k l0).bind fun l =>
  if l.length < 4611686018427387904 ∧ record_Sum.Asc l then some (if l.countP (fun y => !decide (y.f0 > a1)) = 0 then 0 else (l.getD (l.countP (fun y => !decide (y.f0 > a1)) - 1) z44).f1) else none
theorem record_Sum.mono : ∀ a0 a1 k, LeO (record_Sum.f k a0 a1) (record_Sum.f (k + 1) a0 a1) := by
  intro a0 a1 k
  unfold record_Sum.f
  exact LeO.bind (record_leaps.mono _ _) (fun _ => LeO.refl _)
set_option maxHeartbeats 2000000 in
theorem record_Sum.clo (gt gd n c : Nat) (ad : Addr) (a1 x : Int) (i : Nat) (W : World) (hi : i < n)
    (h0 : W.cell? ⟨gt, 0, none⟩ = some (.slice (some ad) n c)) (hd : W.cell? ⟨gd, 0, none⟩ = some (.int .i64 a1)) (hc : W.cell? (ad.add (i * 2)) = some (.int .i64 x)) :
    Calls Try.prog 43 (#[.int .i64 i] ++ #[.pointer (some ⟨gt, 0, none⟩), .pointer (some ⟨gd, 0, none⟩)]) W fun e w' => e = .returned (.bool (decide (x > a1))) ∧ ∃ q, w' = W.drewN q := by
  have hiz : (i : Int) < (n : Int) := by omega
  have hu2 := Try.underlying44
  go_enter Try.func43, Try.ntmps43
  go_wp2
  go_region
  all_goals go_wp2
  all_goals go_ret
  all_goals exact ⟨by first | rfl | simp, 1, rfl⟩
theorem record_Sum.asc_at {l : List S44} (h : record_Sum.Asc l) (a b : Nat) (hab : a ≤ b) (hb : b < l.length) : (l.getD a z44).f0 ≤ (l.getD b z44).f0 := by
  have ha : a < l.length := by omega
  simp only [List.getD_eq_getElem?_getD, List.getElem?_eq_getElem ha, List.getElem?_eq_getElem hb, Option.getD_some]
  by_cases e : a = b
  · subst e; exact Int.le_refl _
  · exact List.pairwise_iff_getElem.mp h a b ha hb (by omega)
theorem record_Sum.count (l : List S44) (p : S44 → Bool) : (List.range l.length).countP (fun i => p (l.getD i z44)) = l.countP p := by
  have : l = (List.range l.length).map (fun i => l.getD i z44) := by
    apply List.ext_getElem
    · simp
    · intro i h1 h2; simp [h1]
  conv => rhs; rw [this, List.countP_map]
  rfl
open Go.Shelf Go.Sort in
theorem record_Sum.search (g0 g1 : Nat) (A : Option Addr) (c : Nat) (l : List (S44)) (a1 : Int) (W : World) (hC : Kd.C k44 W A l.length l) (hsz : l.length < 4611686018427387904) (hasc : record_Sum.Asc l)
    (h0 : W.cell? ⟨g0, 0, none⟩ = some (.slice A l.length c)) (h1 : W.cell? ⟨g1, 0, none⟩ = some (.int .i64 a1)) :
    Calls Try.prog 42 #[.int .i64 (l.length : Nat), .func (.func 43) #[] #[.pointer (some ⟨g0, 0, none⟩), .pointer (some ⟨g1, 0, none⟩)]] W
      fun e w' => e = .returned (.int .i64 ((l.countP (fun y => !decide (y.f0 > a1)) : Nat) : Int)) ∧ Below W.heap.size W w' := by
  have eg : ∀ args w, (callFunc 43 args).run Try.prog w = .ok (.enter 43 args) w := enters_of Try.func43 (by kernel_rfl) rfl
  have b0 := World.block_lt_of_cell? W _ h0
  have b1 := World.block_lt_of_cell? W _ h1
  have hS := Any.sort_Search Try.laysSearch 43 #[.pointer (some ⟨g0, 0, none⟩), .pointer (some ⟨g1, 0, none⟩)] l.length (fun i => decide ((l.getD i z44).f0 > a1)) W eg hsz
    (fun m os i hi => by
      obtain ⟨ad, rfl, hx, _⟩ := at_T44 hC (i : Int) (by omega) (by omega)
      have hx' : W.cell? (ad.add (i * 2)) = some (.int .i64 (l.getD i z44).f0) := by simpa [rd_T44] using hx
      have hlt := World.block_lt_of_cell? W _ hx'
      refine (record_Sum.clo g0 g1 l.length c ad a1 _ i _ hi (cell_grown b0 h0 m os) (cell_grown b1 h1 m os) (cell_grown hlt hx' m os)).mono ?_
      rintro _ _ ⟨he, q, hq⟩
      exact ⟨he, q, #[], by rw [hq, grow_empty]⟩)
    (fun a b hab hb hp => by have := record_Sum.asc_at hasc a b hab hb; simp only [decide_eq_true_eq] at hp ⊢; omega)
  rw [record_Sum.count l (fun y => !decide (y.f0 > a1))] at hS
  exact hS.mono fun e w' ⟨he, q, os, hw⟩ => ⟨he, by rw [hw]; exact below_grown_sl W.heap.size W q os (Nat.le_refl _)⟩
theorem record_Sum.mid (w W1 w2 : World) (A0 A : Option Addr) (c0 c n0 : Nat) (a1 : Int) (l : List (S44)) (HW : W1 = (w.alloc (.cells #[.slice A0 n0 c0] 25)).alloc (.cells #[.int .i64 a1] 3))
    (HB2 : Below W1.heap.size W1 w2) (HF : Kd.F k44 w2 (fun k_ => k_ < w.heap.size ∨ W1.heap.size ≤ k_) A l.length l) :
    ∃ W3, W3 = w2.setCell ⟨w.heap.size, 0, none⟩ (.slice A l.length c) ∧ Kd.F k44 W3 (fun k_ => k_ < w.heap.size ∨ W1.heap.size ≤ k_) A l.length l ∧
      W3.heap[w.heap.size]? = some (.cells #[.slice A l.length c] 25 (0, 0)) ∧ W3.heap[w.heap.size + 1]? = some (.cells #[.int .i64 a1] 3 (0, 0)) ∧ Below w.heap.size w W3 := by
  have hsize : W1.heap.size = w.heap.size + 1 + 1 := by rw [HW]; simp
  have b0 : W1.heap[w.heap.size]? = some (.cells #[.slice A0 n0 c0] 25 (0, 0)) := by rw [HW]; exact blk_alloc (blk_new _ _) _
  have b1 : W1.heap[w.heap.size + 1]? = some (.cells #[.int .i64 a1] 3 (0, 0)) := by
    rw [HW]
    have := blk_new (w.alloc (.cells #[.slice A0 n0 c0] 25)) (.cells #[.int .i64 a1] 3)
    rwa [World.size_alloc] at this
  have hB1 : Below w.heap.size w W1 := by rw [HW]; exact ((Below.refl _ w).alloc (Nat.le_refl _) _).alloc (by simp) _
  refine ⟨_, rfl, Kd.F_far (p := ⟨w.heap.size, 0, none⟩) HF (fun k hk => by show k ≠ w.heap.size; omega) _, blk_put (blk_below b0 HB2) 0 _ rfl, blk_far (p := ⟨w.heap.size, 0, none⟩) (blk_below b1 HB2) (by show w.heap.size + 1 ≠ w.heap.size; omega) _, ?_⟩
  exact below_set (below_step hB1 HB2) (Nat.le_refl _)
set_option maxHeartbeats 4000000 in
set_option maxRecDepth 100000 in
theorem record_Sum.calls (k : Nat) (A0 : Option Addr) (c0 : Nat) (l0 : List (S44)) (a1 : Int) (r : Int) (w : World) (hr0 : Kd.C k44 w A0 l0.length l0) (hc0 : l0.length ≤ c0) (h : record_Sum.f k l0 a1 = some r) :
    Calls Try.prog 24 #[.slice A0 l0.length c0, .int .i64 a1] w fun e w' => e = .returned (.int .i64 r) ∧ Below w.heap.size w w' := by
  unfold record_Sum.f at h
  obtain ⟨l, hl, h⟩ := Option.bind_eq_some_iff.mp h
  by_cases hs : l.length < 4611686018427387904 ∧ record_Sum.Asc l
  · rw [if_pos hs] at h
    obtain ⟨hsz, hasc⟩ := hs
    obtain ⟨W1, hW1⟩ : ∃ W1, W1 = (w.alloc (.cells #[.slice A0 l0.length c0] 25)).alloc (.cells #[.int .i64 a1] 3) := ⟨_, rfl⟩
    have hsize : W1.heap.size = w.heap.size + 1 + 1 := by rw [hW1]; simp
    have hB1 : Below w.heap.size w W1 := by rw [hW1]; exact ((Below.refl _ w).alloc (Nat.le_refl _) _).alloc (by simp) _
    have b0 : W1.heap[w.heap.size]? = some (.cells #[.slice A0 l0.length c0] 25 (0, 0)) := by rw [hW1]; exact blk_alloc (blk_new _ _) _
    have b1 : W1.heap[w.heap.size + 1]? = some (.cells #[.int .i64 a1] 3 (0, 0)) := by
      rw [hW1]
      have := blk_new (w.alloc (.cells #[.slice A0 l0.length c0] 25)) (.cells #[.int .i64 a1] 3)
      rwa [World.size_alloc] at this
    have hV : Kd.V k44 44 W1 W1.heap.size (fun k_ => k_ < w.heap.size) (.slice A0 l0.length c0) l0 := Kd.V_mk hc0 (Kd.F_below (Kd.C_F k44_heap hr0) hB1)
    have HL := Aside0.mk (record_leaps.calls k (fun k_ => k_ < w.heap.size) A0 c0 l0 l W1 hV hl)
    have HW := Aside0.mk hW1
    have HZ := Aside0.mk hsize
    have HB1 := Aside0.mk hB1
    have B0 := Aside0.mk b0
    have B1 := Aside0.mk b1
    have HS := Aside0.mk hsz
    have HA := Aside0.mk hasc
    clear hV hW1 hsize hB1 b0 b1 hsz hasc hr0 hc0 hl
    generalize hcnt : l.countP (fun y => !decide (y.f0 > a1)) = cnt at h
    have HCNT := Aside0.mk hcnt
    clear hcnt
    have hu2 := Try.underlying44
    by_cases hz : cnt = 0
    · rw [if_pos hz] at h
      obtain rfl := Option.some.inj h
      clear h
      have hcz : ((cnt : Int) == 0) = true := beq_iff_eq.mpr (by omega)
      have HCZ := Aside0.mk hz
      clear hz
      go_enter Try.func24, Try.ntmps24
      go_wp2_with (first | (go_at_call 38; rw [← HW.out]; refine HL.out.mono ?_; rintro e w2 ⟨v, rfl, hv, hb⟩; obtain ⟨A, c, rfl, hlc, hF⟩ := hv; have HF := Aside0.mk hF; have HB2 := Aside0.mk hb; have HLC := Aside0.mk hlc; have hcz0 : w2.cell? ⟨w.heap.size, 0, none⟩ = some (.slice A0 l0.length c0) := (blk_cell (blk_below B0.out HB2.out) 0).trans rfl; have hfz0 := blk_frozen (blk_below B0.out HB2.out) 0; have hcz1 : w2.cell? ⟨w.heap.size + 1, 0, none⟩ = some (.int .i64 a1) := (blk_cell (blk_below B1.out HB2.out) 0).trans rfl; clear hF hb hlc) | (go_at_call 42; obtain ⟨W3, hW3, hF3, hb30, hb31, hB3⟩ := record_Sum.mid w W1 w2 A0 A c0 c l0.length a1 l HW.out HB2.out HF.out; rw [← hW3]; refine (record_Sum.search w.heap.size (w.heap.size + 1) A c l a1 W3 (Kd.F_now hF3) HS.out HA.out ((blk_cell hb30 0).trans rfl) ((blk_cell hb31 0).trans rfl)).mono ?_; rintro e w4 ⟨rfl, hb4⟩; rw [HCNT.out]; have hB4 := Aside0.mk (below_step hB3 hb4); clear hW3 hF3 hb30 hb31 hB3 hb4))
      go_ret
      exact ⟨rfl, hB4.out⟩
    · rw [if_neg hz] at h
      obtain rfl := Option.some.inj h
      clear h
      obtain ⟨m, rfl⟩ : ∃ m, cnt = m + 1 := ⟨cnt - 1, by omega⟩
      have HM : Aside0 (m < l.length) := ⟨by have := List.countP_le_length (p := fun y => !decide (y.f0 > a1)) (l := l); have := HCNT.out; omega⟩
      have hcz : (((m + 1 : Nat) : Int) == 0) = false := beq_eq_false_iff_ne.mpr (by omega)
      have hwz : wrap64 (m : Int) = (m : Int) := by have := HM.out; have := HS.out; unfold wrap64; omega
      clear hz
      go_enter Try.func24, Try.ntmps24
      go_wp2_with (first | (go_at_call 38; rw [← HW.out]; refine HL.out.mono ?_; rintro e w2 ⟨v, rfl, hv, hb⟩; obtain ⟨A, c, rfl, hlc, hF⟩ := hv; have HF := Aside0.mk hF; have HB2 := Aside0.mk hb; have HLC := Aside0.mk hlc; have hcz0 : w2.cell? ⟨w.heap.size, 0, none⟩ = some (.slice A0 l0.length c0) := (blk_cell (blk_below B0.out HB2.out) 0).trans rfl; have hfz0 := blk_frozen (blk_below B0.out HB2.out) 0; have hcz1 : w2.cell? ⟨w.heap.size + 1, 0, none⟩ = some (.int .i64 a1) := (blk_cell (blk_below B1.out HB2.out) 0).trans rfl; clear hF hb hlc) | (go_at_call 42; obtain ⟨W3, hW3, hF3, hb30, hb31, hB3⟩ := record_Sum.mid w W1 w2 A0 A c0 c l0.length a1 l HW.out HB2.out HF.out; rw [← hW3]; refine (record_Sum.search w.heap.size (w.heap.size + 1) A c l a1 W3 (Kd.F_now hF3) HS.out HA.out ((blk_cell hb30 0).trans rfl) ((blk_cell hb31 0).trans rfl)).mono ?_; rintro e w4 ⟨rfl, hb4⟩; rw [HCNT.out]; have hB4 := Aside0.mk (below_step hB3 hb4); have hF4 := Kd.F_below hF3 hb4; obtain ⟨ad, rfl, hx0, hx1⟩ := at_T44 (Kd.F_now hF4) (m : Int) (by omega) (by have := HM.out; omega); simp only [Int.toNat_natCast] at hx0 hx1; have hcz4 : w4.cell? ⟨w.heap.size, 0, none⟩ = some (.slice (some ad) l.length c) := (blk_cell (blk_below hb30 hb4) 0).trans rfl; have hmz : (m : Int) < (l.length : Int) := (by have := HM.out; omega); have hmz0 : 0 ≤ (m : Int) := (by omega); clear hW3 hF3 hb30 hb31 hB3 hb4 hF4))
      go_ret
      exact ⟨by simp [rd_T44], hB4.out⟩
  · rw [if_neg hs] at h; exact absurd h (by simp)

/-! ### record_Step: function 26 -/
-- by hand: wip/hand
/-- are records in order? -/
def record_Step.Asc (l : List S44) : Prop := l.Pairwise (fun x y => x.f0 ≤ y.f0)
instance (l : List S44) : Decidable (record_Step.Asc l) := by unfold record_Step.Asc; exact inferInstance
/-- what is told of the place that the search finds -/
def record_Step.val (l : List S44) (a1 : Int) (n : Nat) : Int :=
  if n < l.length then (if (rd_T44 l n).f0 = a1 then (if n = 0 then (rd_T44 l 0).f1 else wrap64 ((rd_T44 l n).f1 - (rd_T44 l ((n : Int) - 1)).f1)) else 0) else 0
def record_Step.f (k : Nat) (l0 : List (S44)) (a1 : Int) : Option (Int) := (record_leaps.f k l0).bind fun l =>
  if l.length < 4611686018427387904 ∧ record_Step.Asc l then some (record_Step.val l a1 (l.countP (fun y => !decide (y.f0 ≥ a1)))) else none
theorem record_Step.mono : ∀ a0 a1 k, LeO (record_Step.f k a0 a1) (record_Step.f (k + 1) a0 a1) := by
  intro a0 a1 k
  unfold record_Step.f
  exact LeO.bind (record_leaps.mono _ _) (fun _ => LeO.refl _)
set_option maxHeartbeats 2000000 in
theorem record_Step.clo (gt gd n c : Nat) (ad : Addr) (a1 x : Int) (i : Nat) (W : World) (hi : i < n)
    (h0 : W.cell? ⟨gt, 0, none⟩ = some (.slice (some ad) n c)) (hd : W.cell? ⟨gd, 0, none⟩ = some (.int .i64 a1)) (hc : W.cell? (ad.add (i * 2)) = some (.int .i64 x)) :
    Calls Try.prog 44 (#[.int .i64 i] ++ #[.pointer (some ⟨gt, 0, none⟩), .pointer (some ⟨gd, 0, none⟩)]) W fun e w' => e = .returned (.bool (decide (x ≥ a1))) ∧ ∃ q, w' = W.drewN q := by
  have hiz : (i : Int) < (n : Int) := by omega
  have hu2 := Try.underlying44
  go_enter Try.func44, Try.ntmps44
  go_wp2
  go_region
  all_goals go_wp2
  all_goals go_ret
  all_goals exact ⟨by first | rfl | simp, 1, rfl⟩
theorem record_Step.asc_at {l : List S44} (h : record_Step.Asc l) (a b : Nat) (hab : a ≤ b) (hb : b < l.length) : (l.getD a z44).f0 ≤ (l.getD b z44).f0 := by
  have ha : a < l.length := by omega
  simp only [List.getD_eq_getElem?_getD, List.getElem?_eq_getElem ha, List.getElem?_eq_getElem hb, Option.getD_some]
  by_cases e : a = b
  · subst e; exact Int.le_refl _
  · exact List.pairwise_iff_getElem.mp h a b ha hb (by omega)
theorem record_Step.count (l : List S44) (p : S44 → Bool) : (List.range l.length).countP (fun i => p (l.getD i z44)) = l.countP p := by
  have : l = (List.range l.length).map (fun i => l.getD i z44) := by
    apply List.ext_getElem
    · simp
    · intro i h1 h2; simp [h1]
  conv => rhs; rw [this, List.countP_map]
  rfl
open Go.Shelf Go.Sort in
theorem record_Step.search (g0 g1 : Nat) (A : Option Addr) (c : Nat) (l : List (S44)) (a1 : Int) (W : World) (hC : Kd.C k44 W A l.length l) (hsz : l.length < 4611686018427387904) (hasc : record_Step.Asc l)
    (h0 : W.cell? ⟨g0, 0, none⟩ = some (.slice A l.length c)) (h1 : W.cell? ⟨g1, 0, none⟩ = some (.int .i64 a1)) :
    Calls Try.prog 42 #[.int .i64 (l.length : Nat), .func (.func 44) #[] #[.pointer (some ⟨g0, 0, none⟩), .pointer (some ⟨g1, 0, none⟩)]] W
      fun e w' => e = .returned (.int .i64 ((l.countP (fun y => !decide (y.f0 ≥ a1)) : Nat) : Int)) ∧ Below W.heap.size W w' := by
  have eg : ∀ args w, (callFunc 44 args).run Try.prog w = .ok (.enter 44 args) w := enters_of Try.func44 (by kernel_rfl) rfl
  have b0 := World.block_lt_of_cell? W _ h0
  have b1 := World.block_lt_of_cell? W _ h1
  have hS := Any.sort_Search Try.laysSearch 44 #[.pointer (some ⟨g0, 0, none⟩), .pointer (some ⟨g1, 0, none⟩)] l.length (fun i => decide ((l.getD i z44).f0 ≥ a1)) W eg hsz
    (fun m os i hi => by
      obtain ⟨ad, rfl, hx, _⟩ := at_T44 hC (i : Int) (by omega) (by omega)
      have hx' : W.cell? (ad.add (i * 2)) = some (.int .i64 (l.getD i z44).f0) := by simpa [rd_T44] using hx
      have hlt := World.block_lt_of_cell? W _ hx'
      refine (record_Step.clo g0 g1 l.length c ad a1 _ i _ hi (cell_grown b0 h0 m os) (cell_grown b1 h1 m os) (cell_grown hlt hx' m os)).mono ?_
      rintro _ _ ⟨he, q, hq⟩
      exact ⟨he, q, #[], by rw [hq, grow_empty]⟩)
    (fun a b hab hb hp => by have := record_Step.asc_at hasc a b hab hb; simp only [decide_eq_true_eq] at hp ⊢; omega)
  rw [record_Step.count l (fun y => !decide (y.f0 ≥ a1))] at hS
  exact hS.mono fun e w' ⟨he, q, os, hw⟩ => ⟨he, by rw [hw]; exact below_grown_sl W.heap.size W q os (Nat.le_refl _)⟩
theorem record_Step.mid (w W1 w2 : World) (A0 A : Option Addr) (c0 c n0 : Nat) (a1 : Int) (l : List (S44)) (HW : W1 = (w.alloc (.cells #[.slice A0 n0 c0] 25)).alloc (.cells #[.int .i64 a1] 3))
    (HB2 : Below W1.heap.size W1 w2) (HF : Kd.F k44 w2 (fun k_ => k_ < w.heap.size ∨ W1.heap.size ≤ k_) A l.length l) :
    ∃ W3, W3 = w2.setCell ⟨w.heap.size, 0, none⟩ (.slice A l.length c) ∧ Kd.F k44 W3 (fun k_ => k_ < w.heap.size ∨ W1.heap.size ≤ k_) A l.length l ∧
      W3.heap[w.heap.size]? = some (.cells #[.slice A l.length c] 25 (0, 0)) ∧ W3.heap[w.heap.size + 1]? = some (.cells #[.int .i64 a1] 3 (0, 0)) ∧ Below w.heap.size w W3 := by
  have hsize : W1.heap.size = w.heap.size + 1 + 1 := by rw [HW]; simp
  have b0 : W1.heap[w.heap.size]? = some (.cells #[.slice A0 n0 c0] 25 (0, 0)) := by rw [HW]; exact blk_alloc (blk_new _ _) _
  have b1 : W1.heap[w.heap.size + 1]? = some (.cells #[.int .i64 a1] 3 (0, 0)) := by
    rw [HW]
    have := blk_new (w.alloc (.cells #[.slice A0 n0 c0] 25)) (.cells #[.int .i64 a1] 3)
    rwa [World.size_alloc] at this
  have hB1 : Below w.heap.size w W1 := by rw [HW]; exact ((Below.refl _ w).alloc (Nat.le_refl _) _).alloc (by simp) _
  refine ⟨_, rfl, Kd.F_far (p := ⟨w.heap.size, 0, none⟩) HF (fun k hk => by show k ≠ w.heap.size; omega) _, blk_put (blk_below b0 HB2) 0 _ rfl, blk_far (p := ⟨w.heap.size, 0, none⟩) (blk_below b1 HB2) (by show w.heap.size + 1 ≠ w.heap.size; omega) _, ?_⟩
  exact below_set (below_step hB1 HB2) (Nat.le_refl _)
set_option maxHeartbeats 4000000 in
set_option maxRecDepth 100000 in
theorem record_Step.calls (k : Nat) (A0 : Option Addr) (c0 : Nat) (l0 : List (S44)) (a1 : Int) (r : Int) (w : World) (hr0 : Kd.C k44 w A0 l0.length l0) (hc0 : l0.length ≤ c0) (h : record_Step.f k l0 a1 = some r) :
    Calls Try.prog 26 #[.slice A0 l0.length c0, .int .i64 a1] w fun e w' => e = .returned (.int .i64 r) ∧ Below w.heap.size w w' := by
  unfold record_Step.f at h
  obtain ⟨l, hl, h⟩ := Option.bind_eq_some_iff.mp h
  by_cases hs : l.length < 4611686018427387904 ∧ record_Step.Asc l
  · rw [if_pos hs] at h
    obtain ⟨hsz, hasc⟩ := hs
    obtain ⟨W1, hW1⟩ : ∃ W1, W1 = (w.alloc (.cells #[.slice A0 l0.length c0] 25)).alloc (.cells #[.int .i64 a1] 3) := ⟨_, rfl⟩
    have hsize : W1.heap.size = w.heap.size + 1 + 1 := by rw [hW1]; simp
    have hB1 : Below w.heap.size w W1 := by rw [hW1]; exact ((Below.refl _ w).alloc (Nat.le_refl _) _).alloc (by simp) _
    have b0 : W1.heap[w.heap.size]? = some (.cells #[.slice A0 l0.length c0] 25 (0, 0)) := by rw [hW1]; exact blk_alloc (blk_new _ _) _
    have b1 : W1.heap[w.heap.size + 1]? = some (.cells #[.int .i64 a1] 3 (0, 0)) := by
      rw [hW1]
      have := blk_new (w.alloc (.cells #[.slice A0 l0.length c0] 25)) (.cells #[.int .i64 a1] 3)
      rwa [World.size_alloc] at this
    have hV : Kd.V k44 44 W1 W1.heap.size (fun k_ => k_ < w.heap.size) (.slice A0 l0.length c0) l0 := Kd.V_mk hc0 (Kd.F_below (Kd.C_F k44_heap hr0) hB1)
    have HL := Aside0.mk (record_leaps.calls k (fun k_ => k_ < w.heap.size) A0 c0 l0 l W1 hV hl)
    have HW := Aside0.mk hW1
    have HZ := Aside0.mk hsize
    have HB1 := Aside0.mk hB1
    have B0 := Aside0.mk b0
    have B1 := Aside0.mk b1
    have HS := Aside0.mk hsz
    have HA := Aside0.mk hasc
    clear hV hW1 hsize hB1 b0 b1 hsz hasc hr0 hc0 hl
    generalize hcnt : l.countP (fun y => !decide (y.f0 ≥ a1)) = cnt at h
    have HCNT := Aside0.mk hcnt
    clear hcnt
    have hu2 := Try.underlying44
    by_cases hlt : cnt < l.length
    rotate_left
    · rw [show record_Step.val l a1 cnt = 0 by unfold record_Step.val; rw [if_neg hlt]] at h
      obtain rfl := Option.some.inj h
      clear h
      have hcz : ((cnt : Int) == (l.length : Int)) = true := beq_iff_eq.mpr (by have := List.countP_le_length (p := fun y => !decide (y.f0 ≥ a1)) (l := l); have := HCNT.out; omega)
      clear hlt
      go_enter Try.func26, Try.ntmps26
      go_wp2_with (first | (go_at_call 38; rw [← HW.out]; refine HL.out.mono ?_; rintro e w2 ⟨v, rfl, hv, hb⟩; obtain ⟨A, c, rfl, hlc, hF⟩ := hv; have HF := Aside0.mk hF; have HB2 := Aside0.mk hb; have HLC := Aside0.mk hlc; have hcz0 : w2.cell? ⟨w.heap.size, 0, none⟩ = some (.slice A0 l0.length c0) := (blk_cell (blk_below B0.out HB2.out) 0).trans rfl; have hfz0 := blk_frozen (blk_below B0.out HB2.out) 0; have hcz1 : w2.cell? ⟨w.heap.size + 1, 0, none⟩ = some (.int .i64 a1) := (blk_cell (blk_below B1.out HB2.out) 0).trans rfl; clear hF hb hlc) | (go_at_call 42; obtain ⟨W3, hW3, hF3, hb30, hb31, hB3⟩ := record_Step.mid w W1 w2 A0 A c0 c l0.length a1 l HW.out HB2.out HF.out; rw [← hW3]; refine (record_Step.search w.heap.size (w.heap.size + 1) A c l a1 W3 (Kd.F_now hF3) HS.out HA.out ((blk_cell hb30 0).trans rfl) ((blk_cell hb31 0).trans rfl)).mono ?_; rintro e w4 ⟨rfl, hb4⟩; rw [HCNT.out]; have hB4 := Aside0.mk (below_step hB3 hb4); have hF4 := Kd.F_below hF3 hb4; have hcz4 : w4.cell? ⟨w.heap.size, 0, none⟩ = some (.slice A l.length c) := (blk_cell (blk_below hb30 hb4) 0).trans rfl; have hcz5 : w4.cell? ⟨w.heap.size + 1, 0, none⟩ = some (.int .i64 a1) := (blk_cell (blk_below hb31 hb4) 0).trans rfl; clear hW3 hF3 hb30 hb31 hB3 hb4 hF4))
      go_region
      all_goals go_wp2
      go_ret
      exact ⟨by first | rfl | simp [*], by repeat (first | exact hB4.out | apply below_drew1 | apply pw_below_drewN)⟩
    have HM : Aside0 (cnt < l.length) := ⟨hlt⟩
    by_cases hat : (rd_T44 l (cnt : Int)).f0 = a1
    rotate_left
    · rw [show record_Step.val l a1 cnt = 0 by unfold record_Step.val; rw [if_pos hlt, if_neg hat]] at h
      obtain rfl := Option.some.inj h
      clear h
      have hcz : ((cnt : Int) == (l.length : Int)) = false := beq_eq_false_iff_ne.mpr (by omega)
      have hmz : (cnt : Int) < (l.length : Int) := (by omega)
      have hmz0 : 0 ≤ (cnt : Int) := (by omega)
      have hne : ((rd_T44 l (cnt : Int)).f0 != a1) = true := bne_iff_ne.mpr hat
      clear hlt
      go_enter Try.func26, Try.ntmps26
      go_wp2_with (first | (go_at_call 38; rw [← HW.out]; refine HL.out.mono ?_; rintro e w2 ⟨v, rfl, hv, hb⟩; obtain ⟨A, c, rfl, hlc, hF⟩ := hv; have HF := Aside0.mk hF; have HB2 := Aside0.mk hb; have HLC := Aside0.mk hlc; have hcz0 : w2.cell? ⟨w.heap.size, 0, none⟩ = some (.slice A0 l0.length c0) := (blk_cell (blk_below B0.out HB2.out) 0).trans rfl; have hfz0 := blk_frozen (blk_below B0.out HB2.out) 0; have hcz1 : w2.cell? ⟨w.heap.size + 1, 0, none⟩ = some (.int .i64 a1) := (blk_cell (blk_below B1.out HB2.out) 0).trans rfl; clear hF hb hlc) | (go_at_call 42; obtain ⟨W3, hW3, hF3, hb30, hb31, hB3⟩ := record_Step.mid w W1 w2 A0 A c0 c l0.length a1 l HW.out HB2.out HF.out; rw [← hW3]; refine (record_Step.search w.heap.size (w.heap.size + 1) A c l a1 W3 (Kd.F_now hF3) HS.out HA.out ((blk_cell hb30 0).trans rfl) ((blk_cell hb31 0).trans rfl)).mono ?_; rintro e w4 ⟨rfl, hb4⟩; rw [HCNT.out]; have hB4 := Aside0.mk (below_step hB3 hb4); have hF4 := Kd.F_below hF3 hb4; have hcz4 : w4.cell? ⟨w.heap.size, 0, none⟩ = some (.slice A l.length c) := (blk_cell (blk_below hb30 hb4) 0).trans rfl; have hcz5 : w4.cell? ⟨w.heap.size + 1, 0, none⟩ = some (.int .i64 a1) := (blk_cell (blk_below hb31 hb4) 0).trans rfl; obtain ⟨ada, ea, hxa0, hxa1⟩ := at_T44 (Kd.F_now hF4) ((cnt : Int)) (by omega) (by have := HM.out; omega); cases ea; simp only [Int.toNat_natCast] at hxa0 hxa1; clear hW3 hF3 hb30 hb31 hB3 hb4 hF4))
      go_region
      all_goals go_wp2
      go_ret
      exact ⟨by first | rfl | simp [*], by repeat (first | exact hB4.out | apply below_drew1 | apply pw_below_drewN)⟩
    by_cases hz : cnt = 0
    · subst hz
      rw [show record_Step.val l a1 0 = (rd_T44 l 0).f1 by unfold record_Step.val; rw [if_pos hlt, if_pos (by simpa using hat), if_pos rfl]] at h
      obtain rfl := Option.some.inj h
      clear h
      have hcz : ((0 : Int) == (l.length : Int)) = false := beq_eq_false_iff_ne.mpr (by omega)
      have hmz : (0 : Int) < (l.length : Int) := (by omega)
      have hat0 : (rd_T44 l 0).f0 = a1 := by simpa using hat
      have hne : ((rd_T44 l 0).f0 != a1) = false := bne_eq_false_iff_eq.mpr hat0
      clear hlt hat
      go_enter Try.func26, Try.ntmps26
      go_wp2_with (first | (go_at_call 38; rw [← HW.out]; refine HL.out.mono ?_; rintro e w2 ⟨v, rfl, hv, hb⟩; obtain ⟨A, c, rfl, hlc, hF⟩ := hv; have HF := Aside0.mk hF; have HB2 := Aside0.mk hb; have HLC := Aside0.mk hlc; have hcz0 : w2.cell? ⟨w.heap.size, 0, none⟩ = some (.slice A0 l0.length c0) := (blk_cell (blk_below B0.out HB2.out) 0).trans rfl; have hfz0 := blk_frozen (blk_below B0.out HB2.out) 0; have hcz1 : w2.cell? ⟨w.heap.size + 1, 0, none⟩ = some (.int .i64 a1) := (blk_cell (blk_below B1.out HB2.out) 0).trans rfl; clear hF hb hlc) | (go_at_call 42; obtain ⟨W3, hW3, hF3, hb30, hb31, hB3⟩ := record_Step.mid w W1 w2 A0 A c0 c l0.length a1 l HW.out HB2.out HF.out; rw [← hW3]; refine (record_Step.search w.heap.size (w.heap.size + 1) A c l a1 W3 (Kd.F_now hF3) HS.out HA.out ((blk_cell hb30 0).trans rfl) ((blk_cell hb31 0).trans rfl)).mono ?_; rintro e w4 ⟨rfl, hb4⟩; rw [HCNT.out]; have hB4 := Aside0.mk (below_step hB3 hb4); have hF4 := Kd.F_below hF3 hb4; have hcz4 : w4.cell? ⟨w.heap.size, 0, none⟩ = some (.slice A l.length c) := (blk_cell (blk_below hb30 hb4) 0).trans rfl; have hcz5 : w4.cell? ⟨w.heap.size + 1, 0, none⟩ = some (.int .i64 a1) := (blk_cell (blk_below hb31 hb4) 0).trans rfl; obtain ⟨ada, ea, hxa0, hxa1⟩ := at_T44 (Kd.F_now hF4) ((0 : Int)) (by omega) (by have := HM.out; omega); cases ea; simp only [Int.toNat_zero, Nat.zero_mul] at hxa0 hxa1; rw [show ada.add 0 = ada from rfl] at hxa0 hxa1; clear hW3 hF3 hb30 hb31 hB3 hb4 hF4))
      go_region
      all_goals go_wp2
      go_ret
      exact ⟨by first | rfl | simp [*], by repeat (first | exact hB4.out | apply below_drew1 | apply pw_below_drewN)⟩
    · obtain ⟨m, rfl⟩ : ∃ m, cnt = m + 1 := ⟨cnt - 1, by omega⟩
      have ec : ((m + 1 : Nat) : Int) = (m : Int) + 1 := by omega
      rw [ec] at hat
      rw [show record_Step.val l a1 (m + 1) = wrap64 ((rd_T44 l ((m : Int) + 1)).f1 - (rd_T44 l (m : Int)).f1) by unfold record_Step.val; rw [ec, if_pos hlt, if_pos hat, if_neg (by omega), show (m : Int) + 1 - 1 = (m : Int) by omega]] at h
      obtain rfl := Option.some.inj h
      clear h ec
      have hcz : ((m : Int) + 1 == (l.length : Int)) = false := beq_eq_false_iff_ne.mpr (by omega)
      have hc0 : ((m : Int) + 1 == 0) = false := beq_eq_false_iff_ne.mpr (by omega)
      have hmz : (m : Int) + 1 < (l.length : Int) := (by omega)
      have hmz0 : 0 ≤ (m : Int) + 1 := (by omega)
      have hmy : (m : Int) < (l.length : Int) := (by omega)
      have hmy0 : 0 ≤ (m : Int) := (by omega)
      have hne : ((rd_T44 l ((m : Int) + 1)).f0 != a1) = false := bne_eq_false_iff_eq.mpr hat
      have hwz : wrap64 (m : Int) = (m : Int) := by have := HM.out; have := HS.out; unfold wrap64; omega
      clear hlt hz
      go_enter Try.func26, Try.ntmps26
      go_wp2_with (first | (go_at_call 38; rw [← HW.out]; refine HL.out.mono ?_; rintro e w2 ⟨v, rfl, hv, hb⟩; obtain ⟨A, c, rfl, hlc, hF⟩ := hv; have HF := Aside0.mk hF; have HB2 := Aside0.mk hb; have HLC := Aside0.mk hlc; have hcz0 : w2.cell? ⟨w.heap.size, 0, none⟩ = some (.slice A0 l0.length c0) := (blk_cell (blk_below B0.out HB2.out) 0).trans rfl; have hfz0 := blk_frozen (blk_below B0.out HB2.out) 0; have hcz1 : w2.cell? ⟨w.heap.size + 1, 0, none⟩ = some (.int .i64 a1) := (blk_cell (blk_below B1.out HB2.out) 0).trans rfl; clear hF hb hlc) | (go_at_call 42; obtain ⟨W3, hW3, hF3, hb30, hb31, hB3⟩ := record_Step.mid w W1 w2 A0 A c0 c l0.length a1 l HW.out HB2.out HF.out; rw [← hW3]; refine (record_Step.search w.heap.size (w.heap.size + 1) A c l a1 W3 (Kd.F_now hF3) HS.out HA.out ((blk_cell hb30 0).trans rfl) ((blk_cell hb31 0).trans rfl)).mono ?_; rintro e w4 ⟨rfl, hb4⟩; rw [HCNT.out]; have hB4 := Aside0.mk (below_step hB3 hb4); have hF4 := Kd.F_below hF3 hb4; have hcz4 : w4.cell? ⟨w.heap.size, 0, none⟩ = some (.slice A l.length c) := (blk_cell (blk_below hb30 hb4) 0).trans rfl; have hcz5 : w4.cell? ⟨w.heap.size + 1, 0, none⟩ = some (.int .i64 a1) := (blk_cell (blk_below hb31 hb4) 0).trans rfl; obtain ⟨ada, ea, hxa0, hxa1⟩ := at_T44 (Kd.F_now hF4) ((m : Int) + 1) (by omega) (by have := HM.out; omega); cases ea; rw [show ((m : Int) + 1).toNat = m + 1 by omega] at hxa0 hxa1; obtain ⟨adb, eb, hxb0, hxb1⟩ := at_T44 (Kd.F_now hF4) ((m : Int)) (by omega) (by have := HM.out; omega); cases eb; simp only [Int.toNat_natCast] at hxb0 hxb1; clear hW3 hF3 hb30 hb31 hB3 hb4 hF4))
      go_region
      all_goals go_wp2
      all_goals go_region
      all_goals go_wp2
      go_ret
      exact ⟨by first | rfl | simp [*], by repeat (first | exact hB4.out | apply below_drew1 | apply pw_below_drewN)⟩
  · rw [if_neg hs] at h; exact absurd h (by simp)

end Go.Proofs.Ytmnkfafnfjpliaa.PAll
