-- Written for this claim by wip/tools of this repo (after the kit's print; own contracts laid in).
import Derived.Test.YtmnkfafnfjpliaaPAllx0
import Derived.Test.YtmnkfafnfjpliaaPAllx9
import Derived.Test.YtmnkfafnfjpliaaPAllx10
import Derived.Test.YtmnkfafnfjpliaaPAllx11
namespace Go.Proofs.Ytmnkfafnfjpliaa.PAll
open Go.RowKit Go.Proofs.YtmnkfafnfjpliaaW.PrintWords Go.Proofs.YtmnkfafnfjpliaaW.PrintLast Go.Proofs.YtmnkfafnfjpliaaW.PrintMore
attribute [local go_sem] max2_int min2_int max_two min_two max_three min_three max_four min_four   -- for this text's walks alone
set_option linter.unusedVariables false
set_option linter.unusedSimpArgs false

/-! ### epactref12_Expiry: function 20 -/
def epactref12_Expiry.f (l0 : List (S44)) : Option (Int × Bool) := (epactref12_leaps.f l0).bind fun t299 => (if t299 = (l0.length : Int) then (some (0, false)) else (if 0 ≤ t299 then (if t299 < (l0.length : Int) then (some ((rd_T44 l0 t299).f0, true)) else (none)) else (none)))
set_option maxHeartbeats 8000000 in
set_option maxRecDepth 100000 in
theorem epactref12_Expiry.calls (A0 : Option Addr) (c0 : Nat) (l0 : List (S44)) (r1 : Int) (r2 : Bool) (w : World) (hr0 : Kd.C k44 w A0 l0.length l0) (hc0 : l0.length ≤ c0) (h : epactref12_Expiry.f l0 = some (r1, r2)) :
    Calls Try.prog 20 #[.slice A0 l0.length c0] w fun e w' => e = .returned (.tuple #[.int .i64 r1, .bool r2]) ∧ Drawn0 w w' := by
  have HR0 := Aside0.mk hr0
  have HC0 := Aside0.mk hc0
  clear hr0 hc0
  have H : ((epactref12_leaps.f l0).bind fun t299 => (if t299 = (l0.length : Int) then (some (0, false)) else (if 0 ≤ t299 then (if t299 < (l0.length : Int) then (some ((rd_T44 l0 t299).f0, true)) else (none)) else (none)))) = some (r1, r2) := h
  clear h
  replace H := Option.bind_eq_some_iff.mp H
  obtain ⟨t299, A20, H⟩ := H
  replace H : (if t299 = (l0.length : Int) then (some (0, false)) else (if 0 ≤ t299 then (if t299 < (l0.length : Int) then (some ((rd_T44 l0 t299).f0, true)) else (none)) else (none))) = some (r1, r2) := H
  have A2 := Aside0.mk A20
  clear A20
  by_cases c3 : t299 = (l0.length : Int)
  · rw [if_pos c3] at H
    have c3b0 : (t299 == (l0.length : Int)) = true := beq_iff_eq.mpr c3
    have c3b1 : (t299 != (l0.length : Int)) = false := bne_eq_false_iff_eq.mpr c3
    clear c3
    simp only [Option.some.injEq, Prod.mk.injEq] at H
    obtain ⟨rfl, rfl⟩ := H
    go_enter Try.func20, Try.ntmps20
    go_wp2_with (first | ((with_reducible refine gate_callee (f := 39) rfl ?_); refine goesL_ (some 6) rfl rfl Try.func39 (by kernel_rfl) rfl #[.slice A0 l0.length c0] rfl (by (try simp only [List.map_toArray, List.map_cons, List.map_nil]); first | done | rfl | (simp only [List.length_drop, List.length_take]; rfl)) ?_; (with_reducible refine (epactref12_leaps.calls _ _ l0 t299 _ ?side1 ?side2 A2.out).mono ?_); (case side1 => repeat (first | exact HR0.out | (with_reducible refine Kd.C_alloc ?_ _) | (with_reducible refine Kd.C_drewN ?_ _) | (with_reducible refine Kd.C_drew ?_))); (case side2 => exact HC0.out); rintro e w' ⟨rfl, ⟨nd, rfl⟩⟩; refine ⟨_, rfl, ?_⟩))
    go_ret2
    exact ⟨by first | rfl | (simp; done) | (simp [*]; done), by repeat (first | exact Drawn0.refl _ | apply Drawn0.step)⟩
  · rw [if_neg c3] at H
    have c3b0 : (t299 == (l0.length : Int)) = false := beq_eq_false_iff_ne.mpr c3
    have c3b1 : (t299 != (l0.length : Int)) = true := bne_iff_ne.mpr c3
    by_cases c4 : 0 ≤ t299
    · rw [if_pos c4] at H
      have c4b0 : decide (0 ≤ t299) = true := decide_eq_true c4
      clear c4
      by_cases c5 : t299 < (l0.length : Int)
      · rw [if_pos c5] at H
        have c5b0 : decide (t299 < (l0.length : Int)) = true := decide_eq_true c5
        clear c5
        simp only [Option.some.injEq, Prod.mk.injEq] at H
        obtain ⟨rfl, rfl⟩ := H
        go_enter Try.func20, Try.ntmps20
        go_wp2_with (first | ((with_reducible refine gate_callee (f := 39) rfl ?_); refine goesL_ (some 6) rfl rfl Try.func39 (by kernel_rfl) rfl #[.slice A0 l0.length c0] rfl (by (try simp only [List.map_toArray, List.map_cons, List.map_nil]); first | done | rfl | (simp only [List.length_drop, List.length_take]; rfl)) ?_; (with_reducible refine (epactref12_leaps.calls _ _ l0 t299 _ ?side1 ?side2 A2.out).mono ?_); (case side1 => repeat (first | exact HR0.out | (with_reducible refine Kd.C_alloc ?_ _) | (with_reducible refine Kd.C_drewN ?_ _) | (with_reducible refine Kd.C_drew ?_))); (case side2 => exact HC0.out); rintro e w' ⟨rfl, ⟨nd, rfl⟩⟩; refine ⟨_, rfl, ?_⟩; have p300 : 0 ≤ (t299 : Int) := of_decide_eq_true (by first | (with_reducible assumption) | assumption); have q300 : t299 < (l0.length : Int) := of_decide_eq_true (by first | (with_reducible assumption) | assumption); obtain ⟨ad300, e300, hx300_0, hx300_1⟩ := at_T44 HR0.out t299 p300 q300; cases e300; replace p300 := eq_true p300; replace q300 := eq_true q300))
        go_ret2
        exact ⟨by first | rfl | (simp; done) | (simp [*]; done), by repeat (first | exact Drawn0.refl _ | apply Drawn0.step)⟩
      · rw [if_neg c5] at H
        exact absurd H (by simp)
    · rw [if_neg c4] at H
      exact absurd H (by simp)

/-! ### epactref01_Div: function 41 -/
def epactref01_Div.f (a0 : Int) (a1 : Int) : Option (Int × Int × Bool) := if a1 < 1 then (some (0, 0, false)) else (if a1 = 0 then (none) else (if (Int.tmod a0 a1) < 0 then (some (wrap64 ((wrap64 (Int.tdiv a0 a1)) - 1), wrap64 ((Int.tmod a0 a1) + a1), true)) else (some (wrap64 (Int.tdiv a0 a1), Int.tmod a0 a1, true))))
set_option maxHeartbeats 8000000 in
set_option maxRecDepth 100000 in
theorem epactref01_Div.calls (a0 : Int) (a1 : Int) (r1 : Int) (r2 : Int) (r3 : Bool) (w : World) (h : epactref01_Div.f a0 a1 = some (r1, r2, r3)) :
    Calls Try.prog 41 #[.int .i64 a0, .int .i64 a1] w fun e w' => e = .returned (.tuple #[.int .i64 r1, .int .i64 r2, .bool r3]) ∧ Drawn0 w w' := by
  have H : (if a1 < 1 then (some (0, 0, false)) else (if a1 = 0 then (none) else (if (Int.tmod a0 a1) < 0 then (some (wrap64 ((wrap64 (Int.tdiv a0 a1)) - 1), wrap64 ((Int.tmod a0 a1) + a1), true)) else (some (wrap64 (Int.tdiv a0 a1), Int.tmod a0 a1, true))))) = some (r1, r2, r3) := h
  clear h
  by_cases c3 : a1 < 1
  · rw [if_pos c3] at H
    have c3b0 : decide (a1 < 1) = true := decide_eq_true c3
    clear c3
    simp only [Option.some.injEq, Prod.mk.injEq] at H
    obtain ⟨rfl, rfl, rfl⟩ := H
    go_enter Try.func41, Try.ntmps41
    go_wp2
    go_ret3
    exact ⟨by first | rfl | (simp; done) | (simp [*]; done), by repeat (first | exact Drawn0.refl _ | apply Drawn0.step)⟩
  · rw [if_neg c3] at H
    have c3b0 : decide (a1 < 1) = false := decide_eq_false c3
    clear c3
    by_cases c4 : a1 = 0
    · rw [if_pos c4] at H
      exact absurd H (by simp)
    · rw [if_neg c4] at H
      have c4b0 : (a1 == 0) = false := beq_eq_false_iff_ne.mpr c4
      have c4b1 : (a1 != 0) = true := bne_iff_ne.mpr c4
      by_cases c5 : (Int.tmod a0 a1) < 0
      · rw [if_pos c5] at H
        have c5b0 : decide ((Int.tmod a0 a1) < 0) = true := decide_eq_true c5
        clear c5
        simp only [Option.some.injEq, Prod.mk.injEq] at H
        obtain ⟨rfl, rfl, rfl⟩ := H
        go_enter Try.func41, Try.ntmps41
        go_wp2
        go_ret3
        exact ⟨by first | rfl | (simp; done) | (simp [*]; done), by repeat (first | exact Drawn0.refl _ | apply Drawn0.step)⟩
      · rw [if_neg c5] at H
        have c5b0 : decide ((Int.tmod a0 a1) < 0) = false := decide_eq_false c5
        clear c5
        simp only [Option.some.injEq, Prod.mk.injEq] at H
        obtain ⟨rfl, rfl, rfl⟩ := H
        go_enter Try.func41, Try.ntmps41
        go_wp2
        go_ret3
        exact ⟨by first | rfl | (simp; done) | (simp [*]; done), by repeat (first | exact Drawn0.refl _ | apply Drawn0.step)⟩

/-! ### epactref12_Table: function 22 -/
def epactref12_Table.l0 : Nat → List (S44) → Int → Int → Int → List (S47) → Bool → Int → Option ((List (S47)) × Bool × Int × Bool)
  | 0, _, _, _, _, _, _, _ => none
  | k + 1, x0, x5, x6, x7, x303000, x303001, x303002 => if x7 < x5 then (if 0 ≤ x7 then (if x7 < (x0.length : Int) then (if (wrap64 (((rd_T44 x0 x7).f1) - x6)) < 0 then ((epactref01_Div.f (wrap64 ((wrap64 (((rd_T44 x0 x7).f0) - x6)) + 1)) 86400).bind fun bt306 => (if bt306.2.1 = 0 then (if x303000.length < 5864062014805 then (epactref12_Table.l0 k x0 x5 ((rd_T44 x0 x7).f1) (wrap64 (x7 + 1)) (x303000 ++ [(⟨wrap64 (bt306.1 - 1), wrap64 (((rd_T44 x0 x7).f1) - x6), false⟩ : S47)]) x303001 x303002) else (none)) else (some (([] : List (S47)), false, 0, false)))) else ((epactref01_Div.f (wrap64 (((rd_T44 x0 x7).f0) - x6)) 86400).bind fun bt313 => (if bt313.2.1 = 0 then (if x303000.length < 5864062014805 then (epactref12_Table.l0 k x0 x5 ((rd_T44 x0 x7).f1) (wrap64 (x7 + 1)) (x303000 ++ [(⟨wrap64 (bt313.1 - 1), wrap64 (((rd_T44 x0 x7).f1) - x6), false⟩ : S47)]) x303001 x303002) else (none)) else (some (([] : List (S47)), false, 0, false))))) else (none)) else (none)) else (if x5 < (x0.length : Int) then (if 0 ≤ x5 then ((epactref09_Right.f k x303000 true (wrap64 (((rd_T44 x0 x5).f0) - x6))).bind fun t321 => (if t321 = true then (some (x303000, true, wrap64 (((rd_T44 x0 x5).f0) - x6), true)) else (some (([] : List (S47)), false, 0, false)))) else (none)) else ((epactref09_Right.f k x303000 x303001 x303002).bind fun t322 => (if t322 = true then (some (x303000, x303001, x303002, true)) else (some (([] : List (S47)), false, 0, false)))))
def epactref12_Table.f (k : Nat) (l0 : List (S44)) : Option ((List (S47)) × Bool × Int × Bool) := (epactref12_leaps.f l0).bind fun t303 => (epactref12_Table.l0 k l0 t303 0 0 ([] : List (S47)) false 0)
theorem epactref12_Table.mono_l : ∀ k, (∀ y0 y1 y2 y3 y4 y5 y6, LeO (epactref12_Table.l0 k y0 y1 y2 y3 y4 y5 y6) (epactref12_Table.l0 (k + 1) y0 y1 y2 y3 y4 y5 y6))
  | 0 => fun _ _ _ _ _ _ _ r h => by simp [epactref12_Table.l0] at h
  | k + 1 => by
    have ih0 := epactref12_Table.mono_l k
    · intro y0 y1 y2 y3 y4 y5 y6
      unfold epactref12_Table.l0
      repeat' first
      | (with_reducible exact ih0 _ _ _ _ _ _ _)
      | (with_reducible exact epactref09_Right.mono _ _ _ _)
      | (with_reducible exact LeO.refl _)
      | (with_reducible exact LeO.none _)
      | (with_reducible refine LeO.ite ?_ ?_)
      | (with_reducible refine LeO.bind ?_ (fun _ => ?_))
      | exact ih0 _ _ _ _ _ _ _
      | exact epactref09_Right.mono _ _ _ _
      | exact LeO.none _
      | refine LeO.ite ?_ ?_
      | refine LeO.bind ?_ (fun _ => ?_)
theorem epactref12_Table.mono : ∀ a0 k, LeO (epactref12_Table.f k a0) (epactref12_Table.f (k + 1) a0) := by
  intro a0 k
  have ih0 := epactref12_Table.mono_l k
  unfold epactref12_Table.f
  repeat' first
      | (with_reducible exact ih0 _ _ _ _ _ _ _)
      | (with_reducible exact epactref09_Right.mono _ _ _ _)
      | (with_reducible exact LeO.refl _)
      | (with_reducible exact LeO.none _)
      | (with_reducible refine LeO.ite ?_ ?_)
      | (with_reducible refine LeO.bind ?_ (fun _ => ?_))
      | exact ih0 _ _ _ _ _ _ _
      | exact epactref09_Right.mono _ _ _ _
      | exact LeO.none _
      | refine LeO.ite ?_ ?_
      | refine LeO.bind ?_ (fun _ => ?_)
set_option maxHeartbeats 8000000 in
set_option maxRecDepth 100000 in
theorem epactref12_Table.calls (k : Nat) (A0 : Option Addr) (c0 : Nat) (l0 : List (S44)) (r1 : List (S47)) (r2 : Bool) (r3 : Int) (r4 : Bool) (w : World) (hr0 : Kd.C k44 w A0 l0.length l0) (hc0 : l0.length ≤ c0) (h : epactref12_Table.f k l0 = some (r1, r2, r3, r4)) :
    Calls Try.prog 22 #[.slice A0 l0.length c0] w fun e w' => ∃ v0_ : Value, e = .returned (.tuple #[.agg #[v0_, .bool r2, .int .i64 r3], .bool r4]) ∧ Kd.R k47 47 w' w.heap.size (fun _ => True) v0_ r1 ∧ Below w.heap.size w w' := by
  have hu24 := Try.underlying24
  have hu47 := Try.underlying47
  have HR0 := Aside0.mk hr0
  have HC0 := Aside0.mk hc0
  clear hr0 hc0
  have HB := Aside0.mk (Below.refl w.heap.size w)
  have H : ((epactref12_leaps.f l0).bind fun t303 => (epactref12_Table.l0 k l0 t303 0 0 ([] : List (S47)) false 0)) = some (r1, r2, r3, r4) := h
  clear h
  replace H := Option.bind_eq_some_iff.mp H
  obtain ⟨t303, A20, H⟩ := H
  replace H : (epactref12_Table.l0 k l0 t303 0 0 ([] : List (S47)) false 0) = some (r1, r2, r3, r4) := H
  have A2 := Aside0.mk A20
  clear A20
  have H' := Aside0.mk H
  clear H
  go_enter Try.func22, Try.ntmps22
  go_wp2_with (first | ((with_reducible refine gate_dst (N := 2) rfl ?_); refine box_event ?hg (N := 2) ?hd (cs := #[.slice none 0 0, .bool false, .int .i64 0]) (t := 24) ?hr ?_; (case hd => rfl); (case hg => rfl); (case hr => first | (go_simp; done) | (go_simp; rfl)); intro gb301 hg w3 hbox hb; have n0_ := Aside0.mk (below_step (by repeat (first | (with_reducible first | exact HB.out | apply below_alloc | apply pw_below_drewN | apply below_drew1) | exact HB.out)) hb); have n1_ := Aside0.mk (hbox); have n2_ := Aside0.mk ((by rw [hg]; exact (below_size (by repeat (first | (with_reducible first | exact HB.out | apply below_alloc | apply pw_below_drewN | apply below_drew1) | exact HB.out))) : w.heap.size ≤ gb301)); have n3_ := Aside0.mk ((by rw [hg]; exact (below_size (by repeat (first | (with_reducible first | exact HB.out | apply below_alloc | apply pw_below_drewN | apply below_drew1) | exact HB.out))) : w.heap.size ≤ gb301)); clear HB; have HB := n0_; have BK301 := n1_; have GW301 := n2_; have GE301 := n3_; clear n0_ n1_ n2_ n3_; clear hb hbox hg) | ((with_reducible refine gate_dst (N := 4) rfl ?_); refine box_event ?hg (N := 4) ?hd (cs := #[.slice none 0 0, .bool false, .int .i64 0]) (t := 24) ?hr ?_; (case hd => rfl); (case hg => rfl); (case hr => first | (go_simp; done) | (go_simp; rfl)); intro gb302 hg w4 hbox hb; have n0_ := Aside0.mk (blk_below (g := gb301) (o := .cells #[.slice none 0 0, .bool false, .int .i64 0] 24 (0, 0)) (by (with_reducible repeat (first | refine blk_drewN ?_ _ | refine blk_drew ?_ | refine blk_alloc ?_ _)); exact BK301.out) hb); have n1_ := Aside0.mk (below_step (by repeat (first | (with_reducible first | exact HB.out | apply below_alloc | apply pw_below_drewN | apply below_drew1 | refine below_set ?_ GE301.out) | exact HB.out)) hb); have n2_ := Aside0.mk (hbox); have n3_ := Aside0.mk ((by rw [hg]; exact (below_size (by repeat (first | (with_reducible first | exact HB.out | apply below_alloc | apply pw_below_drewN | apply below_drew1 | refine below_set ?_ GE301.out) | exact HB.out))) : w.heap.size ≤ gb302)); have n4_ := Aside0.mk ((by rw [hg]; exact (below_size (by repeat (first | (with_reducible first | exact HB.out | apply below_alloc | apply pw_below_drewN | apply below_drew1 | refine below_set ?_ GE301.out) | exact HB.out))) : w.heap.size ≤ gb302)); have n5_ := Aside0.mk ((by rw [hg]; exact Nat.ne_of_lt (blk_lt (g := gb301) (o := .cells #[.slice none 0 0, .bool false, .int .i64 0] 24 (0, 0)) (by (with_reducible repeat (first | refine blk_drewN ?_ _ | refine blk_drew ?_ | refine blk_alloc ?_ _)); exact BK301.out)) : gb301 ≠ gb302)); have n6_ := Aside0.mk ((by rw [hg]; exact Nat.ne_of_gt (blk_lt (g := gb301) (o := .cells #[.slice none 0 0, .bool false, .int .i64 0] 24 (0, 0)) (by (with_reducible repeat (first | refine blk_drewN ?_ _ | refine blk_drew ?_ | refine blk_alloc ?_ _)); exact BK301.out)) : gb302 ≠ gb301)); clear BK301; clear HB; have BK301 := n0_; have HB := n1_; have BK302 := n2_; have GW302 := n3_; have GE302 := n4_; have NB301_302 := n5_; have NB302_301 := n6_; clear n0_ n1_ n2_ n3_ n4_ n5_ n6_; clear hb hbox hg) | ((with_reducible refine gate_callee (f := 39) rfl ?_); refine goesL_ (some 14) rfl rfl Try.func39 (by kernel_rfl) rfl #[.slice A0 l0.length c0] rfl (by (try simp only [List.map_toArray, List.map_cons, List.map_nil]); first | done | rfl | (simp only [List.length_drop, List.length_take]; rfl)) ?_; (with_reducible refine (epactref12_leaps.calls _ _ l0 t303 _ ?side1 ?side2 A2.out).mono ?_); (case side1 => repeat (first | exact (Kd.C_below HR0.out HB.out) | (with_reducible refine Kd.C_alloc ?_ _) | (with_reducible refine Kd.C_drewN ?_ _) | (with_reducible refine Kd.C_drew ?_))); (case side2 => exact HC0.out); rintro e w' ⟨rfl, ⟨nd, rfl⟩⟩; refine ⟨_, rfl, ?_⟩))
  go_loopg [6, 7] k (fun kq v6 v7 w' => ∃ (x6_1 : Int) (x7_1 : Int) (x302001_1 : Bool) (x302002_1 : Int) (x303000_1 : List (S47)) (u303000 : Value), v6 = .int .i64 x6_1 ∧ v7 = .int .i64 x7_1 ∧ Aside0 (epactref12_Table.l0 kq l0 t303 x6_1 x7_1 x303000_1 false 0 = some (r1, r2, r3, r4)) ∧ Aside0 (kq ≤ k) ∧ Aside0 (Kd.R k47 47 w' w.heap.size (fun _ => True) u303000 x303000_1) ∧ Aside0 (w'.heap[gb301]? = some (.cells #[(.slice none 0 0), .bool x302001_1, .int .i64 x302002_1] 24 (0, 0))) ∧ Aside0 (w'.heap[gb302]? = some (.cells #[u303000, .bool false, .int .i64 0] 24 (0, 0))) ∧ Aside0 (Below w.heap.size w w'))
  case atStart => exact ⟨(0), (0), (false), (0), (([] : List (S47))), (.slice none 0 0), (by first | rfl | (simp; done) | (simp [*]; done)), (by first | rfl | (simp; done) | (simp [*]; done)), H', ⟨Nat.le_refl _⟩, ⟨by first | exact Kd.R_nil _ _ _ _ _ | exact Kd.N_nil _ _ _ _ _ | exact Kd.V_nil _ _ _ _ _ | exact Kd.Q_nil _ _ _ _ _ | exact Kd.S_nil _ _ _ _ _⟩, ⟨by (with_reducible repeat (first | refine blk_drewN ?_ _ | refine blk_drew ?_ | refine blk_alloc ?_ _)); exact BK301.out⟩, ⟨by (with_reducible repeat (first | refine blk_drewN ?_ _ | refine blk_drew ?_ | refine blk_alloc ?_ _)); exact BK302.out⟩, ⟨by repeat (first | (with_reducible first | exact HB.out | apply below_alloc | apply pw_below_drewN | apply below_drew1 | refine below_set ?_ GE301.out | refine below_set ?_ GE302.out) | exact HB.out)⟩⟩
  case round =>
    clear H'
    try clear c2
    try clear p2
    try clear c3
    obtain ⟨x6_1, x7_1, x302001_1, x302002_1, x303000_1, u303000, rfl, rfl, HA, HK1, HO_303000, BK301, BK302, HB⟩ := hrel
    cases gk with
    | zero => exact absurd HA.out (by simp [epactref12_Table.l0])
    | succ k1 =>
      have H := HA.out
      clear HA
      simp only [epactref12_Table.l0] at H
      by_cases c5 : x7_1 < t303
      · rw [if_pos c5] at H
        have c5b0 : decide (x7_1 < t303) = true := decide_eq_true c5
        clear c5
        by_cases c6 : 0 ≤ x7_1
        · rw [if_pos c6] at H
          have c6b0 : decide (0 ≤ x7_1) = true := decide_eq_true c6
          clear c6
          by_cases c7 : x7_1 < (l0.length : Int)
          · rw [if_pos c7] at H
            have c7b0 : decide (x7_1 < (l0.length : Int)) = true := decide_eq_true c7
            clear c7
            by_cases c8 : (wrap64 (((rd_T44 l0 x7_1).f1) - x6_1)) < 0
            · rw [if_pos c8] at H
              have c8b0 : decide ((wrap64 (((rd_T44 l0 x7_1).f1) - x6_1)) < 0) = true := decide_eq_true c8
              clear c8
              replace H := Option.bind_eq_some_iff.mp H
              obtain ⟨⟨t306, t307, t308⟩, A90, H⟩ := H
              replace H : (if t307 = 0 then (if x303000_1.length < 5864062014805 then (epactref12_Table.l0 k1 l0 t303 ((rd_T44 l0 x7_1).f1) (wrap64 (x7_1 + 1)) (x303000_1 ++ [(⟨wrap64 (t306 - 1), wrap64 (((rd_T44 l0 x7_1).f1) - x6_1), false⟩ : S47)]) false 0) else (none)) else (some (([] : List (S47)), false, 0, false))) = some (r1, r2, r3, r4) := H
              have A9 := Aside0.mk A90
              clear A90
              by_cases c10 : t307 = 0
              · rw [if_pos c10] at H
                have c10b0 : (t307 == 0) = true := beq_iff_eq.mpr c10
                have c10b1 : (t307 != 0) = false := bne_eq_false_iff_eq.mpr c10
                clear c10
                by_cases c11 : x303000_1.length < 5864062014805
                · rw [if_pos c11] at H
                  have LMc11 := Aside0.mk c11
                  clear c11
                  obtain ⟨y309, hy309⟩ : ∃ y_ : List (S47), y_ = (x303000_1 ++ [(⟨wrap64 (t306 - 1), wrap64 (((rd_T44 l0 x7_1).f1) - x6_1), false⟩ : S47)]) := ⟨_, rfl⟩
                  replace H : (epactref12_Table.l0 k1 l0 t303 ((rd_T44 l0 x7_1).f1) (wrap64 (x7_1 + 1)) y309 false 0) = some (r1, r2, r3, r4) := by first | (rw [hy309]; with_reducible exact H) | (have H2_ := (Option.bind_some _ _).symm.trans H; rw [hy309]; with_reducible exact H2_) | (have H2_ := (Option.bind_some _ _).symm.trans H; with_reducible exact H2_) | with_reducible exact H | (rw [hy309]; exact H) | exact H
                  have Ny309 := Aside0.mk hy309
                  clear hy309
                  have H' := Aside0.mk H
                  clear H
                  have p304 : 0 ≤ (x7_1 : Int) := of_decide_eq_true (by first | (with_reducible assumption) | assumption)
                  have q304 : x7_1 < (l0.length : Int) := of_decide_eq_true (by first | (with_reducible assumption) | assumption)
                  obtain ⟨ad304, e304, hx304_0, hx304_1⟩ := at_T44 HR0.out x7_1 p304 q304
                  cases e304
                  replace hx304_0 := (HB.out.cell (World.block_lt_of_cell? w _ hx304_0)).trans hx304_0
                  replace hx304_1 := (HB.out.cell (World.block_lt_of_cell? w _ hx304_1)).trans hx304_1
                  replace p304 := eq_true p304
                  replace q304 := eq_true q304
                  have p305 : 0 ≤ (x7_1 : Int) := of_decide_eq_true (by first | (with_reducible assumption) | assumption)
                  have q305 : x7_1 < (l0.length : Int) := of_decide_eq_true (by first | (with_reducible assumption) | assumption)
                  obtain ⟨ad305, e305, hx305_0, hx305_1⟩ := at_T44 HR0.out x7_1 p305 q305
                  obtain rfl : ad304 = ad305 := (by injection e305)
                  replace hx305_0 := (HB.out.cell (World.block_lt_of_cell? w _ hx305_0)).trans hx305_0
                  replace hx305_1 := (HB.out.cell (World.block_lt_of_cell? w _ hx305_1)).trans hx305_1
                  replace p305 := eq_true p305
                  replace q305 := eq_true q305
                  go_wp2_with (first | ((with_reducible refine gate_callee (f := 41) rfl ?_); refine goesL_ (some 40) rfl rfl Try.func41 (by kernel_rfl) rfl #[.int .i64 (wrap64 ((wrap64 (((rd_T44 l0 x7_1).f0) - x6_1)) + 1)), .int .i64 86400] rfl (by (try simp only [List.map_toArray, List.map_cons, List.map_nil]); first | done | rfl | (simp only [List.length_drop, List.length_take]; rfl)) ?_; (with_reducible refine (epactref01_Div.calls (wrap64 ((wrap64 (((rd_T44 l0 x7_1).f0) - x6_1)) + 1)) 86400 t306 t307 t308 _ A9.out).mono ?_); rintro e w' ⟨rfl, ⟨nd, rfl⟩⟩; refine ⟨_, rfl, ?_⟩; (try (rw [drewN_self wr]; generalize hq_ : World.drewN wr _ = wr; have n0_ : Aside0 (Kd.R k47 47 wr w.heap.size (fun _ => True) u303000 x303000_1) := ⟨by rw [← hq_]; exact (by (with_reducible repeat (first | apply Kd.R_alloc | apply Kd.R_drewN | apply Kd.R_drew)); exact HO_303000.out)⟩; have n1_ : Aside0 (wr.heap[gb301]? = some (.cells #[.slice none 0 0, .bool x302001_1, .int .i64 x302002_1] 24 (0, 0))) := ⟨by rw [← hq_]; exact (by (with_reducible repeat (first | refine blk_drewN ?_ _ | refine blk_drew ?_ | refine blk_alloc ?_ _)); exact BK301.out)⟩; have n2_ : Aside0 (wr.heap[gb302]? = some (.cells #[u303000, .bool false, .int .i64 0] 24 (0, 0))) := ⟨by rw [← hq_]; exact (by (with_reducible repeat (first | refine blk_drewN ?_ _ | refine blk_drew ?_ | refine blk_alloc ?_ _)); exact BK302.out)⟩; have n3_ : Aside0 (Below w.heap.size w wr) := ⟨by rw [← hq_]; exact (by repeat (first | (with_reducible first | exact HB.out | apply below_alloc | apply pw_below_drewN | apply below_drew1 | refine below_set ?_ GE301.out | refine below_set ?_ GE302.out) | exact HB.out))⟩; clear HO_303000 BK301 BK302 HB hq_; have HO_303000 := n0_; have BK301 := n1_; have BK302 := n2_; have HB := n3_; clear n0_ n1_ n2_ n3_)); have hnb12 := NB302_301.out; have hnc12 := NB301_302.out; have hcz13_0 : wr.cell? ⟨gb302, 0, none⟩ = some (u303000) := (blk_cell BK302.out 0).trans rfl; have hcz13_1 : wr.cell? ⟨gb302, 1, none⟩ = some (.bool false) := (blk_cell BK302.out 1).trans rfl; have hcz13_2 : wr.cell? ⟨gb302, 2, none⟩ = some (.int .i64 0) := (blk_cell BK302.out 2).trans rfl; have hfz13_0 := blk_frozen BK302.out 0; have hfz13_1 := blk_frozen BK302.out 1; have hfz13_2 := blk_frozen BK302.out 2) | ((with_reducible refine gate_builtin (b := .append) (xs := #[.tmp 48, .tmp 53]) rfl ?_); at_builtin; refine Kd.R_append k47 (w0 := w) w.heap.size rfl (.tmp 48) (.tmp 53) 22 47 (.agg #[(.int .i64 0), (.int .i64 0), (.bool false)]) 24 rfl Try.underlying22 info47 rfl (by decide) (by omega) u303000 x303000_1 (⟨wrap64 (t306 - 1), wrap64 (((rd_T44 l0 x7_1).f1) - x6_1), false⟩ : S47) [.int .i64 (wrap64 (t306 - 1)), .int .i64 (wrap64 (((rd_T44 l0 x7_1).f1) - x6_1)), .bool false] (fun _ => True) (fun _ => False) rfl rfl ?aP (fun _ hk => hk.elim) ?aF ?aO ?aB ?aS ?aL ?_; (case aP => exact k47_mkM _ _ _ (⟨wrap64 (t306 - 1), wrap64 (((rd_T44 l0 x7_1).f1) - x6_1), false⟩ : S47)); (case aB => exact (by repeat (first | (with_reducible first | exact HB.out | apply below_alloc | apply pw_below_drewN | apply below_drew1 | refine below_set ?_ GE301.out | refine below_set ?_ GE302.out) | exact HB.out))); (case aF => exact (fun _ _ => trivial)); (case aO => exact (by (with_reducible repeat (first | apply Kd.R_alloc | apply Kd.R_drewN | apply Kd.R_drew)); exact HO_303000.out)); (case aS => exact (below_size (by repeat (first | (with_reducible first | exact HB.out | apply below_alloc | apply pw_below_drewN | apply below_drew1 | refine below_set ?_ GE301.out | refine below_set ?_ GE302.out) | exact HB.out)))); (case aL => have := LMc11.out; omega); intro v310 w14 ho hb hg hat; rw [← Ny309.out] at ho; have n0_ := Aside0.mk (blk_grown (g := gb301) (o := .cells #[.slice none 0 0, .bool x302001_1, .int .i64 x302002_1] 24 (0, 0)) (by (with_reducible repeat (first | refine blk_drewN ?_ _ | refine blk_drew ?_ | refine blk_alloc ?_ _)); exact BK301.out) hg (Kd.R_ne HO_303000.out BK301.out (by decide))); have n1_ := Aside0.mk (blk_grown (g := gb302) (o := .cells #[u303000, .bool false, .int .i64 0] 24 (0, 0)) (by (with_reducible repeat (first | refine blk_drewN ?_ _ | refine blk_drew ?_ | refine blk_alloc ?_ _)); exact BK302.out) hg (Kd.R_ne HO_303000.out BK302.out (by decide))); have n2_ := Aside0.mk (hb); have n3_ := Aside0.mk (ho); clear BK301; clear BK302; clear HB; clear HO_303000; have BK301 := n0_; have BK302 := n1_; have HB := n2_; have HO311 := n3_; clear n0_ n1_ n2_ n3_; clear ho hb hg hat; obtain ⟨Ao15, co15, eo15⟩ := Kd.R_slice HO311.out; subst eo15; have hcz16_0 : w14.cell? ⟨gb302, 0, none⟩ = some (u303000) := (blk_cell BK302.out 0).trans rfl; have hcz16_1 : w14.cell? ⟨gb302, 1, none⟩ = some (.bool false) := (blk_cell BK302.out 1).trans rfl; have hcz16_2 : w14.cell? ⟨gb302, 2, none⟩ = some (.int .i64 0) := (blk_cell BK302.out 2).trans rfl; have hfz16_0 := blk_frozen BK302.out 0; have hfz16_1 := blk_frozen BK302.out 1; have hfz16_2 := blk_frozen BK302.out 2; have p312 : 0 ≤ (x7_1 : Int) := of_decide_eq_true (by first | (with_reducible assumption) | assumption); have q312 : x7_1 < (l0.length : Int) := of_decide_eq_true (by first | (with_reducible assumption) | assumption); obtain ⟨ad312, e312, hx312_0, hx312_1⟩ := at_T44 HR0.out x7_1 p312 q312; obtain rfl : ad304 = ad312 := (by injection e312); have hn312_0 : ad304.block ≠ gb302 := Nat.ne_of_lt (Nat.lt_of_lt_of_le (by have := World.block_lt_of_cell? _ _ hx312_0; first | rwa [add_block] at this | exact this) GW302.out); replace hx312_0 := (HB.out.cell (World.block_lt_of_cell? w _ hx312_0)).trans hx312_0; replace hx312_1 := (HB.out.cell (World.block_lt_of_cell? w _ hx312_1)).trans hx312_1; replace hx312_0 := (cell_far (p := ⟨gb302, 0, none⟩) (by first | (rw [add_block]; exact hn312_0) | (show (Addr.add _ _).block ≠ _; rw [add_block]; exact hn312_0) | exact hn312_0) (.slice Ao15 y309.length co15)).trans hx312_0; replace hx312_1 := (cell_far (p := ⟨gb302, 0, none⟩) (by first | (rw [add_block]; exact hn312_0) | (show (Addr.add _ _).block ≠ _; rw [add_block]; exact hn312_0) | exact hn312_0) (.slice Ao15 y309.length co15)).trans hx312_1; clear hn312_0; replace p312 := eq_true p312; replace q312 := eq_true q312))
                  go_roundg k1
                  case measure => have := HK1.out; omega
                  case rel => exact ⟨((rd_T44 l0 x7_1).f1), (wrap64 (x7_1 + 1)), (x302001_1), (x302002_1), (y309), (.slice Ao15 y309.length co15), (by first | rfl | (simp; done) | (simp [*]; done)), (by first | rfl | (simp; done) | (simp [*]; done)), H', ⟨by have := HK1.out; omega⟩, ⟨by (with_reducible repeat (first | apply Kd.R_alloc | apply Kd.R_drewN | apply Kd.R_drew)); exact Kd.R_mono (Kd.R_far (p := ⟨gb302, 0, none⟩) (Kd.R_types HO311.out BK302.out (by decide)) (fun _ hk => hk.2) (.slice Ao15 y309.length co15)) (fun _ hk => trivial)⟩, ⟨by (with_reducible repeat (first | refine blk_drewN ?_ _ | refine blk_drew ?_ | refine blk_alloc ?_ _)); refine blk_far ?_ NB301_302.out _; (with_reducible repeat (first | refine blk_drewN ?_ _ | refine blk_drew ?_ | refine blk_alloc ?_ _)); exact BK301.out⟩, ⟨by (with_reducible repeat (first | refine blk_drewN ?_ _ | refine blk_drew ?_ | refine blk_alloc ?_ _)); refine blk_put (cs := #[u303000, .bool false, .int .i64 0]) ?_ 0 _ rfl; (with_reducible repeat (first | refine blk_drewN ?_ _ | refine blk_drew ?_ | refine blk_alloc ?_ _)); exact BK302.out⟩, ⟨by repeat (first | (with_reducible first | exact HB.out | apply below_alloc | apply pw_below_drewN | apply below_drew1 | refine below_set ?_ GE301.out | refine below_set ?_ GE302.out) | exact HB.out)⟩⟩
                · rw [if_neg c11] at H
                  exact absurd H (by simp)
              · rw [if_neg c10] at H
                have c10b0 : (t307 == 0) = false := beq_eq_false_iff_ne.mpr c10
                have c10b1 : (t307 != 0) = true := bne_iff_ne.mpr c10
                simp only [Option.some.injEq, Prod.mk.injEq] at H
                obtain ⟨rfl, rfl, rfl, rfl⟩ := H
                have p304 : 0 ≤ (x7_1 : Int) := of_decide_eq_true (by first | (with_reducible assumption) | assumption)
                have q304 : x7_1 < (l0.length : Int) := of_decide_eq_true (by first | (with_reducible assumption) | assumption)
                obtain ⟨ad304, e304, hx304_0, hx304_1⟩ := at_T44 HR0.out x7_1 p304 q304
                cases e304
                replace hx304_0 := (HB.out.cell (World.block_lt_of_cell? w _ hx304_0)).trans hx304_0
                replace hx304_1 := (HB.out.cell (World.block_lt_of_cell? w _ hx304_1)).trans hx304_1
                replace p304 := eq_true p304
                replace q304 := eq_true q304
                have p305 : 0 ≤ (x7_1 : Int) := of_decide_eq_true (by first | (with_reducible assumption) | assumption)
                have q305 : x7_1 < (l0.length : Int) := of_decide_eq_true (by first | (with_reducible assumption) | assumption)
                obtain ⟨ad305, e305, hx305_0, hx305_1⟩ := at_T44 HR0.out x7_1 p305 q305
                obtain rfl : ad304 = ad305 := (by injection e305)
                replace hx305_0 := (HB.out.cell (World.block_lt_of_cell? w _ hx305_0)).trans hx305_0
                replace hx305_1 := (HB.out.cell (World.block_lt_of_cell? w _ hx305_1)).trans hx305_1
                replace p305 := eq_true p305
                replace q305 := eq_true q305
                go_wp2_with (first | ((with_reducible refine gate_callee (f := 41) rfl ?_); refine goesL_ (some 40) rfl rfl Try.func41 (by kernel_rfl) rfl #[.int .i64 (wrap64 ((wrap64 (((rd_T44 l0 x7_1).f0) - x6_1)) + 1)), .int .i64 86400] rfl (by (try simp only [List.map_toArray, List.map_cons, List.map_nil]); first | done | rfl | (simp only [List.length_drop, List.length_take]; rfl)) ?_; (with_reducible refine (epactref01_Div.calls (wrap64 ((wrap64 (((rd_T44 l0 x7_1).f0) - x6_1)) + 1)) 86400 t306 t307 t308 _ A9.out).mono ?_); rintro e w' ⟨rfl, ⟨nd, rfl⟩⟩; refine ⟨_, rfl, ?_⟩; (try (rw [drewN_self wr]; generalize hq_ : World.drewN wr _ = wr; have n0_ : Aside0 (Kd.R k47 47 wr w.heap.size (fun _ => True) u303000 x303000_1) := ⟨by rw [← hq_]; exact (by (with_reducible repeat (first | apply Kd.R_alloc | apply Kd.R_drewN | apply Kd.R_drew)); exact HO_303000.out)⟩; have n1_ : Aside0 (wr.heap[gb301]? = some (.cells #[.slice none 0 0, .bool x302001_1, .int .i64 x302002_1] 24 (0, 0))) := ⟨by rw [← hq_]; exact (by (with_reducible repeat (first | refine blk_drewN ?_ _ | refine blk_drew ?_ | refine blk_alloc ?_ _)); exact BK301.out)⟩; have n2_ : Aside0 (wr.heap[gb302]? = some (.cells #[u303000, .bool false, .int .i64 0] 24 (0, 0))) := ⟨by rw [← hq_]; exact (by (with_reducible repeat (first | refine blk_drewN ?_ _ | refine blk_drew ?_ | refine blk_alloc ?_ _)); exact BK302.out)⟩; have n3_ : Aside0 (Below w.heap.size w wr) := ⟨by rw [← hq_]; exact (by repeat (first | (with_reducible first | exact HB.out | apply below_alloc | apply pw_below_drewN | apply below_drew1 | refine below_set ?_ GE301.out | refine below_set ?_ GE302.out) | exact HB.out))⟩; clear HO_303000 BK301 BK302 HB hq_; have HO_303000 := n0_; have BK301 := n1_; have BK302 := n2_; have HB := n3_; clear n0_ n1_ n2_ n3_)); have hnb17 := NB301_302.out; have hnc17 := NB302_301.out; have hcz18_0 : wr.cell? ⟨gb301, 0, none⟩ = some (.slice none 0 0) := (blk_cell BK301.out 0).trans rfl; have hcz18_1 : wr.cell? ⟨gb301, 1, none⟩ = some (.bool x302001_1) := (blk_cell BK301.out 1).trans rfl; have hcz18_2 : wr.cell? ⟨gb301, 2, none⟩ = some (.int .i64 x302002_1) := (blk_cell BK301.out 2).trans rfl; have hfz18_0 := blk_frozen BK301.out 0; have hfz18_1 := blk_frozen BK301.out 1; have hfz18_2 := blk_frozen BK301.out 2))
                refine bodyPost_ret (results_ct rfl _ _ gb301 24 #[.slice none 0 0, .bool false, .int .i64 0] (0, 0) _ rfl (by (with_reducible repeat (first | refine blk_drewN ?_ _ | refine blk_drew ?_ | refine blk_alloc ?_ _)); refine blk_put (cs := #[.slice none 0 0, .bool false, .int .i64 x302002_1]) ?_ 2 _ rfl; (with_reducible repeat (first | refine blk_drewN ?_ _ | refine blk_drew ?_ | refine blk_alloc ?_ _)); refine blk_put (cs := #[.slice none 0 0, .bool x302001_1, .int .i64 x302002_1]) ?_ 1 _ rfl; (with_reducible repeat (first | refine blk_drewN ?_ _ | refine blk_drew ?_ | refine blk_alloc ?_ _)); refine blk_put (cs := #[.slice none 0 0, .bool x302001_1, .int .i64 x302002_1]) ?_ 0 _ rfl; (with_reducible repeat (first | refine blk_drewN ?_ _ | refine blk_drew ?_ | refine blk_alloc ?_ _)); exact BK301.out) Try.underlying24 rfl (by kernel_rfl)) rfl ?_
                exact ⟨_, by first | rfl | (simp [errW_none, errW_some] <;> rfl) | (simp [*, errW_none, errW_some] <;> rfl), by first | exact Kd.R_nil _ _ _ _ _ | exact Kd.N_nil _ _ _ _ _ | exact Kd.V_nil _ _ _ _ _ | exact Kd.Q_nil _ _ _ _ _ | exact Kd.S_nil _ _ _ _ _, by repeat (first | (with_reducible first | exact HB.out | apply below_alloc | apply pw_below_drewN | apply below_drew1 | refine below_set ?_ GE301.out | refine below_set ?_ GE302.out) | exact HB.out)⟩
            · rw [if_neg c8] at H
              have c8b0 : decide ((wrap64 (((rd_T44 l0 x7_1).f1) - x6_1)) < 0) = false := decide_eq_false c8
              clear c8
              replace H := Option.bind_eq_some_iff.mp H
              obtain ⟨⟨t313, t314, t315⟩, A190, H⟩ := H
              replace H : (if t314 = 0 then (if x303000_1.length < 5864062014805 then (epactref12_Table.l0 k1 l0 t303 ((rd_T44 l0 x7_1).f1) (wrap64 (x7_1 + 1)) (x303000_1 ++ [(⟨wrap64 (t313 - 1), wrap64 (((rd_T44 l0 x7_1).f1) - x6_1), false⟩ : S47)]) false 0) else (none)) else (some (([] : List (S47)), false, 0, false))) = some (r1, r2, r3, r4) := H
              have A19 := Aside0.mk A190
              clear A190
              by_cases c20 : t314 = 0
              · rw [if_pos c20] at H
                have c20b0 : (t314 == 0) = true := beq_iff_eq.mpr c20
                have c20b1 : (t314 != 0) = false := bne_eq_false_iff_eq.mpr c20
                clear c20
                by_cases c21 : x303000_1.length < 5864062014805
                · rw [if_pos c21] at H
                  have LMc21 := Aside0.mk c21
                  clear c21
                  obtain ⟨y316, hy316⟩ : ∃ y_ : List (S47), y_ = (x303000_1 ++ [(⟨wrap64 (t313 - 1), wrap64 (((rd_T44 l0 x7_1).f1) - x6_1), false⟩ : S47)]) := ⟨_, rfl⟩
                  replace H : (epactref12_Table.l0 k1 l0 t303 ((rd_T44 l0 x7_1).f1) (wrap64 (x7_1 + 1)) y316 false 0) = some (r1, r2, r3, r4) := by first | (rw [hy316]; with_reducible exact H) | (have H2_ := (Option.bind_some _ _).symm.trans H; rw [hy316]; with_reducible exact H2_) | (have H2_ := (Option.bind_some _ _).symm.trans H; with_reducible exact H2_) | with_reducible exact H | (rw [hy316]; exact H) | exact H
                  have Ny316 := Aside0.mk hy316
                  clear hy316
                  have H' := Aside0.mk H
                  clear H
                  have p304 : 0 ≤ (x7_1 : Int) := of_decide_eq_true (by first | (with_reducible assumption) | assumption)
                  have q304 : x7_1 < (l0.length : Int) := of_decide_eq_true (by first | (with_reducible assumption) | assumption)
                  obtain ⟨ad304, e304, hx304_0, hx304_1⟩ := at_T44 HR0.out x7_1 p304 q304
                  cases e304
                  replace hx304_0 := (HB.out.cell (World.block_lt_of_cell? w _ hx304_0)).trans hx304_0
                  replace hx304_1 := (HB.out.cell (World.block_lt_of_cell? w _ hx304_1)).trans hx304_1
                  replace p304 := eq_true p304
                  replace q304 := eq_true q304
                  have p305 : 0 ≤ (x7_1 : Int) := of_decide_eq_true (by first | (with_reducible assumption) | assumption)
                  have q305 : x7_1 < (l0.length : Int) := of_decide_eq_true (by first | (with_reducible assumption) | assumption)
                  obtain ⟨ad305, e305, hx305_0, hx305_1⟩ := at_T44 HR0.out x7_1 p305 q305
                  obtain rfl : ad304 = ad305 := (by injection e305)
                  replace hx305_0 := (HB.out.cell (World.block_lt_of_cell? w _ hx305_0)).trans hx305_0
                  replace hx305_1 := (HB.out.cell (World.block_lt_of_cell? w _ hx305_1)).trans hx305_1
                  replace p305 := eq_true p305
                  replace q305 := eq_true q305
                  go_wp2_with (first | ((with_reducible refine gate_callee (f := 41) rfl ?_); refine goesL_ (some 40) rfl rfl Try.func41 (by kernel_rfl) rfl #[.int .i64 (wrap64 (((rd_T44 l0 x7_1).f0) - x6_1)), .int .i64 86400] rfl (by (try simp only [List.map_toArray, List.map_cons, List.map_nil]); first | done | rfl | (simp only [List.length_drop, List.length_take]; rfl)) ?_; (with_reducible refine (epactref01_Div.calls (wrap64 (((rd_T44 l0 x7_1).f0) - x6_1)) 86400 t313 t314 t315 _ A19.out).mono ?_); rintro e w' ⟨rfl, ⟨nd, rfl⟩⟩; refine ⟨_, rfl, ?_⟩; (try (rw [drewN_self wr]; generalize hq_ : World.drewN wr _ = wr; have n0_ : Aside0 (Kd.R k47 47 wr w.heap.size (fun _ => True) u303000 x303000_1) := ⟨by rw [← hq_]; exact (by (with_reducible repeat (first | apply Kd.R_alloc | apply Kd.R_drewN | apply Kd.R_drew)); exact HO_303000.out)⟩; have n1_ : Aside0 (wr.heap[gb301]? = some (.cells #[.slice none 0 0, .bool x302001_1, .int .i64 x302002_1] 24 (0, 0))) := ⟨by rw [← hq_]; exact (by (with_reducible repeat (first | refine blk_drewN ?_ _ | refine blk_drew ?_ | refine blk_alloc ?_ _)); exact BK301.out)⟩; have n2_ : Aside0 (wr.heap[gb302]? = some (.cells #[u303000, .bool false, .int .i64 0] 24 (0, 0))) := ⟨by rw [← hq_]; exact (by (with_reducible repeat (first | refine blk_drewN ?_ _ | refine blk_drew ?_ | refine blk_alloc ?_ _)); exact BK302.out)⟩; have n3_ : Aside0 (Below w.heap.size w wr) := ⟨by rw [← hq_]; exact (by repeat (first | (with_reducible first | exact HB.out | apply below_alloc | apply pw_below_drewN | apply below_drew1 | refine below_set ?_ GE301.out | refine below_set ?_ GE302.out) | exact HB.out))⟩; clear HO_303000 BK301 BK302 HB hq_; have HO_303000 := n0_; have BK301 := n1_; have BK302 := n2_; have HB := n3_; clear n0_ n1_ n2_ n3_)); have hnb22 := NB302_301.out; have hnc22 := NB301_302.out; have hcz23_0 : wr.cell? ⟨gb302, 0, none⟩ = some (u303000) := (blk_cell BK302.out 0).trans rfl; have hcz23_1 : wr.cell? ⟨gb302, 1, none⟩ = some (.bool false) := (blk_cell BK302.out 1).trans rfl; have hcz23_2 : wr.cell? ⟨gb302, 2, none⟩ = some (.int .i64 0) := (blk_cell BK302.out 2).trans rfl; have hfz23_0 := blk_frozen BK302.out 0; have hfz23_1 := blk_frozen BK302.out 1; have hfz23_2 := blk_frozen BK302.out 2) | ((with_reducible refine gate_builtin (b := .append) (xs := #[.tmp 48, .tmp 53]) rfl ?_); at_builtin; refine Kd.R_append k47 (w0 := w) w.heap.size rfl (.tmp 48) (.tmp 53) 22 47 (.agg #[(.int .i64 0), (.int .i64 0), (.bool false)]) 24 rfl Try.underlying22 info47 rfl (by decide) (by omega) u303000 x303000_1 (⟨wrap64 (t313 - 1), wrap64 (((rd_T44 l0 x7_1).f1) - x6_1), false⟩ : S47) [.int .i64 (wrap64 (t313 - 1)), .int .i64 (wrap64 (((rd_T44 l0 x7_1).f1) - x6_1)), .bool false] (fun _ => True) (fun _ => False) rfl rfl ?aP (fun _ hk => hk.elim) ?aF ?aO ?aB ?aS ?aL ?_; (case aP => exact k47_mkM _ _ _ (⟨wrap64 (t313 - 1), wrap64 (((rd_T44 l0 x7_1).f1) - x6_1), false⟩ : S47)); (case aB => exact (by repeat (first | (with_reducible first | exact HB.out | apply below_alloc | apply pw_below_drewN | apply below_drew1 | refine below_set ?_ GE301.out | refine below_set ?_ GE302.out) | exact HB.out))); (case aF => exact (fun _ _ => trivial)); (case aO => exact (by (with_reducible repeat (first | apply Kd.R_alloc | apply Kd.R_drewN | apply Kd.R_drew)); exact HO_303000.out)); (case aS => exact (below_size (by repeat (first | (with_reducible first | exact HB.out | apply below_alloc | apply pw_below_drewN | apply below_drew1 | refine below_set ?_ GE301.out | refine below_set ?_ GE302.out) | exact HB.out)))); (case aL => have := LMc21.out; omega); intro v317 w24 ho hb hg hat; rw [← Ny316.out] at ho; have n0_ := Aside0.mk (blk_grown (g := gb301) (o := .cells #[.slice none 0 0, .bool x302001_1, .int .i64 x302002_1] 24 (0, 0)) (by (with_reducible repeat (first | refine blk_drewN ?_ _ | refine blk_drew ?_ | refine blk_alloc ?_ _)); exact BK301.out) hg (Kd.R_ne HO_303000.out BK301.out (by decide))); have n1_ := Aside0.mk (blk_grown (g := gb302) (o := .cells #[u303000, .bool false, .int .i64 0] 24 (0, 0)) (by (with_reducible repeat (first | refine blk_drewN ?_ _ | refine blk_drew ?_ | refine blk_alloc ?_ _)); exact BK302.out) hg (Kd.R_ne HO_303000.out BK302.out (by decide))); have n2_ := Aside0.mk (hb); have n3_ := Aside0.mk (ho); clear BK301; clear BK302; clear HB; clear HO_303000; have BK301 := n0_; have BK302 := n1_; have HB := n2_; have HO318 := n3_; clear n0_ n1_ n2_ n3_; clear ho hb hg hat; obtain ⟨Ao25, co25, eo25⟩ := Kd.R_slice HO318.out; subst eo25; have hcz26_0 : w24.cell? ⟨gb302, 0, none⟩ = some (u303000) := (blk_cell BK302.out 0).trans rfl; have hcz26_1 : w24.cell? ⟨gb302, 1, none⟩ = some (.bool false) := (blk_cell BK302.out 1).trans rfl; have hcz26_2 : w24.cell? ⟨gb302, 2, none⟩ = some (.int .i64 0) := (blk_cell BK302.out 2).trans rfl; have hfz26_0 := blk_frozen BK302.out 0; have hfz26_1 := blk_frozen BK302.out 1; have hfz26_2 := blk_frozen BK302.out 2; have p319 : 0 ≤ (x7_1 : Int) := of_decide_eq_true (by first | (with_reducible assumption) | assumption); have q319 : x7_1 < (l0.length : Int) := of_decide_eq_true (by first | (with_reducible assumption) | assumption); obtain ⟨ad319, e319, hx319_0, hx319_1⟩ := at_T44 HR0.out x7_1 p319 q319; obtain rfl : ad304 = ad319 := (by injection e319); have hn319_0 : ad304.block ≠ gb302 := Nat.ne_of_lt (Nat.lt_of_lt_of_le (by have := World.block_lt_of_cell? _ _ hx319_0; first | rwa [add_block] at this | exact this) GW302.out); replace hx319_0 := (HB.out.cell (World.block_lt_of_cell? w _ hx319_0)).trans hx319_0; replace hx319_1 := (HB.out.cell (World.block_lt_of_cell? w _ hx319_1)).trans hx319_1; replace hx319_0 := (cell_far (p := ⟨gb302, 0, none⟩) (by first | (rw [add_block]; exact hn319_0) | (show (Addr.add _ _).block ≠ _; rw [add_block]; exact hn319_0) | exact hn319_0) (.slice Ao25 y316.length co25)).trans hx319_0; replace hx319_1 := (cell_far (p := ⟨gb302, 0, none⟩) (by first | (rw [add_block]; exact hn319_0) | (show (Addr.add _ _).block ≠ _; rw [add_block]; exact hn319_0) | exact hn319_0) (.slice Ao25 y316.length co25)).trans hx319_1; clear hn319_0; replace p319 := eq_true p319; replace q319 := eq_true q319))
                  go_roundg k1
                  case measure => have := HK1.out; omega
                  case rel => exact ⟨((rd_T44 l0 x7_1).f1), (wrap64 (x7_1 + 1)), (x302001_1), (x302002_1), (y316), (.slice Ao25 y316.length co25), (by first | rfl | (simp; done) | (simp [*]; done)), (by first | rfl | (simp; done) | (simp [*]; done)), H', ⟨by have := HK1.out; omega⟩, ⟨by (with_reducible repeat (first | apply Kd.R_alloc | apply Kd.R_drewN | apply Kd.R_drew)); exact Kd.R_mono (Kd.R_far (p := ⟨gb302, 0, none⟩) (Kd.R_types HO318.out BK302.out (by decide)) (fun _ hk => hk.2) (.slice Ao25 y316.length co25)) (fun _ hk => trivial)⟩, ⟨by (with_reducible repeat (first | refine blk_drewN ?_ _ | refine blk_drew ?_ | refine blk_alloc ?_ _)); refine blk_far ?_ NB301_302.out _; (with_reducible repeat (first | refine blk_drewN ?_ _ | refine blk_drew ?_ | refine blk_alloc ?_ _)); exact BK301.out⟩, ⟨by (with_reducible repeat (first | refine blk_drewN ?_ _ | refine blk_drew ?_ | refine blk_alloc ?_ _)); refine blk_put (cs := #[u303000, .bool false, .int .i64 0]) ?_ 0 _ rfl; (with_reducible repeat (first | refine blk_drewN ?_ _ | refine blk_drew ?_ | refine blk_alloc ?_ _)); exact BK302.out⟩, ⟨by repeat (first | (with_reducible first | exact HB.out | apply below_alloc | apply pw_below_drewN | apply below_drew1 | refine below_set ?_ GE301.out | refine below_set ?_ GE302.out) | exact HB.out)⟩⟩
                · rw [if_neg c21] at H
                  exact absurd H (by simp)
              · rw [if_neg c20] at H
                have c20b0 : (t314 == 0) = false := beq_eq_false_iff_ne.mpr c20
                have c20b1 : (t314 != 0) = true := bne_iff_ne.mpr c20
                simp only [Option.some.injEq, Prod.mk.injEq] at H
                obtain ⟨rfl, rfl, rfl, rfl⟩ := H
                have p304 : 0 ≤ (x7_1 : Int) := of_decide_eq_true (by first | (with_reducible assumption) | assumption)
                have q304 : x7_1 < (l0.length : Int) := of_decide_eq_true (by first | (with_reducible assumption) | assumption)
                obtain ⟨ad304, e304, hx304_0, hx304_1⟩ := at_T44 HR0.out x7_1 p304 q304
                cases e304
                replace hx304_0 := (HB.out.cell (World.block_lt_of_cell? w _ hx304_0)).trans hx304_0
                replace hx304_1 := (HB.out.cell (World.block_lt_of_cell? w _ hx304_1)).trans hx304_1
                replace p304 := eq_true p304
                replace q304 := eq_true q304
                have p305 : 0 ≤ (x7_1 : Int) := of_decide_eq_true (by first | (with_reducible assumption) | assumption)
                have q305 : x7_1 < (l0.length : Int) := of_decide_eq_true (by first | (with_reducible assumption) | assumption)
                obtain ⟨ad305, e305, hx305_0, hx305_1⟩ := at_T44 HR0.out x7_1 p305 q305
                obtain rfl : ad304 = ad305 := (by injection e305)
                replace hx305_0 := (HB.out.cell (World.block_lt_of_cell? w _ hx305_0)).trans hx305_0
                replace hx305_1 := (HB.out.cell (World.block_lt_of_cell? w _ hx305_1)).trans hx305_1
                replace p305 := eq_true p305
                replace q305 := eq_true q305
                go_wp2_with (first | ((with_reducible refine gate_callee (f := 41) rfl ?_); refine goesL_ (some 40) rfl rfl Try.func41 (by kernel_rfl) rfl #[.int .i64 (wrap64 (((rd_T44 l0 x7_1).f0) - x6_1)), .int .i64 86400] rfl (by (try simp only [List.map_toArray, List.map_cons, List.map_nil]); first | done | rfl | (simp only [List.length_drop, List.length_take]; rfl)) ?_; (with_reducible refine (epactref01_Div.calls (wrap64 (((rd_T44 l0 x7_1).f0) - x6_1)) 86400 t313 t314 t315 _ A19.out).mono ?_); rintro e w' ⟨rfl, ⟨nd, rfl⟩⟩; refine ⟨_, rfl, ?_⟩; (try (rw [drewN_self wr]; generalize hq_ : World.drewN wr _ = wr; have n0_ : Aside0 (Kd.R k47 47 wr w.heap.size (fun _ => True) u303000 x303000_1) := ⟨by rw [← hq_]; exact (by (with_reducible repeat (first | apply Kd.R_alloc | apply Kd.R_drewN | apply Kd.R_drew)); exact HO_303000.out)⟩; have n1_ : Aside0 (wr.heap[gb301]? = some (.cells #[.slice none 0 0, .bool x302001_1, .int .i64 x302002_1] 24 (0, 0))) := ⟨by rw [← hq_]; exact (by (with_reducible repeat (first | refine blk_drewN ?_ _ | refine blk_drew ?_ | refine blk_alloc ?_ _)); exact BK301.out)⟩; have n2_ : Aside0 (wr.heap[gb302]? = some (.cells #[u303000, .bool false, .int .i64 0] 24 (0, 0))) := ⟨by rw [← hq_]; exact (by (with_reducible repeat (first | refine blk_drewN ?_ _ | refine blk_drew ?_ | refine blk_alloc ?_ _)); exact BK302.out)⟩; have n3_ : Aside0 (Below w.heap.size w wr) := ⟨by rw [← hq_]; exact (by repeat (first | (with_reducible first | exact HB.out | apply below_alloc | apply pw_below_drewN | apply below_drew1 | refine below_set ?_ GE301.out | refine below_set ?_ GE302.out) | exact HB.out))⟩; clear HO_303000 BK301 BK302 HB hq_; have HO_303000 := n0_; have BK301 := n1_; have BK302 := n2_; have HB := n3_; clear n0_ n1_ n2_ n3_)); have hnb27 := NB301_302.out; have hnc27 := NB302_301.out; have hcz28_0 : wr.cell? ⟨gb301, 0, none⟩ = some (.slice none 0 0) := (blk_cell BK301.out 0).trans rfl; have hcz28_1 : wr.cell? ⟨gb301, 1, none⟩ = some (.bool x302001_1) := (blk_cell BK301.out 1).trans rfl; have hcz28_2 : wr.cell? ⟨gb301, 2, none⟩ = some (.int .i64 x302002_1) := (blk_cell BK301.out 2).trans rfl; have hfz28_0 := blk_frozen BK301.out 0; have hfz28_1 := blk_frozen BK301.out 1; have hfz28_2 := blk_frozen BK301.out 2))
                refine bodyPost_ret (results_ct rfl _ _ gb301 24 #[.slice none 0 0, .bool false, .int .i64 0] (0, 0) _ rfl (by (with_reducible repeat (first | refine blk_drewN ?_ _ | refine blk_drew ?_ | refine blk_alloc ?_ _)); refine blk_put (cs := #[.slice none 0 0, .bool false, .int .i64 x302002_1]) ?_ 2 _ rfl; (with_reducible repeat (first | refine blk_drewN ?_ _ | refine blk_drew ?_ | refine blk_alloc ?_ _)); refine blk_put (cs := #[.slice none 0 0, .bool x302001_1, .int .i64 x302002_1]) ?_ 1 _ rfl; (with_reducible repeat (first | refine blk_drewN ?_ _ | refine blk_drew ?_ | refine blk_alloc ?_ _)); refine blk_put (cs := #[.slice none 0 0, .bool x302001_1, .int .i64 x302002_1]) ?_ 0 _ rfl; (with_reducible repeat (first | refine blk_drewN ?_ _ | refine blk_drew ?_ | refine blk_alloc ?_ _)); exact BK301.out) Try.underlying24 rfl (by kernel_rfl)) rfl ?_
                exact ⟨_, by first | rfl | (simp [errW_none, errW_some] <;> rfl) | (simp [*, errW_none, errW_some] <;> rfl), by first | exact Kd.R_nil _ _ _ _ _ | exact Kd.N_nil _ _ _ _ _ | exact Kd.V_nil _ _ _ _ _ | exact Kd.Q_nil _ _ _ _ _ | exact Kd.S_nil _ _ _ _ _, by repeat (first | (with_reducible first | exact HB.out | apply below_alloc | apply pw_below_drewN | apply below_drew1 | refine below_set ?_ GE301.out | refine below_set ?_ GE302.out) | exact HB.out)⟩
          · rw [if_neg c7] at H
            exact absurd H (by simp)
        · rw [if_neg c6] at H
          exact absurd H (by simp)
      · rw [if_neg c5] at H
        have c5b0 : decide (x7_1 < t303) = false := decide_eq_false c5
        clear c5
        by_cases c29 : t303 < (l0.length : Int)
        · rw [if_pos c29] at H
          have c29b0 : decide (t303 < (l0.length : Int)) = true := decide_eq_true c29
          clear c29
          by_cases c30 : 0 ≤ t303
          · rw [if_pos c30] at H
            have c30b0 : decide (0 ≤ t303) = true := decide_eq_true c30
            clear c30
            replace H := Option.bind_eq_some_iff.mp H
            obtain ⟨t321, A310, H⟩ := H
            replace H : (if t321 = true then (some (x303000_1, true, wrap64 (((rd_T44 l0 t303).f0) - x6_1), true)) else (some (([] : List (S47)), false, 0, false))) = some (r1, r2, r3, r4) := H
            have A31 := Aside0.mk A310
            clear A310
            by_cases c32 : t321 = true
            · subst c32
              have H1 : (some (x303000_1, true, wrap64 (((rd_T44 l0 t303).f0) - x6_1), true)) = some (r1, r2, r3, r4) := by rw [if_pos rfl] at H; exact H
              clear H
              have H := H1
              clear H1
              simp only [Option.some.injEq, Prod.mk.injEq] at H
              obtain ⟨rfl, rfl, rfl, rfl⟩ := H
              have hnb33 := NB302_301.out
              have hnc33 := NB301_302.out
              have hcz34_0 : wr.cell? ⟨gb302, 0, none⟩ = some (u303000) := (blk_cell BK302.out 0).trans rfl
              have hcz34_1 : wr.cell? ⟨gb302, 1, none⟩ = some (.bool false) := (blk_cell BK302.out 1).trans rfl
              have hcz34_2 : wr.cell? ⟨gb302, 2, none⟩ = some (.int .i64 0) := (blk_cell BK302.out 2).trans rfl
              have hfz34_0 := blk_frozen BK302.out 0
              have hfz34_1 := blk_frozen BK302.out 1
              have hfz34_2 := blk_frozen BK302.out 2
              have p320 : 0 ≤ (t303 : Int) := of_decide_eq_true (by first | (with_reducible assumption) | assumption)
              have q320 : t303 < (l0.length : Int) := of_decide_eq_true (by first | (with_reducible assumption) | assumption)
              obtain ⟨ad320, e320, hx320_0, hx320_1⟩ := at_T44 HR0.out t303 p320 q320
              cases e320
              have hn320_0 : ad320.block ≠ gb302 := Nat.ne_of_lt (Nat.lt_of_lt_of_le (by have := World.block_lt_of_cell? _ _ hx320_0; first | rwa [add_block] at this | exact this) GW302.out)
              replace hx320_0 := (HB.out.cell (World.block_lt_of_cell? w _ hx320_0)).trans hx320_0
              replace hx320_1 := (HB.out.cell (World.block_lt_of_cell? w _ hx320_1)).trans hx320_1
              replace hx320_0 := (cell_far (p := ⟨gb302, 1, none⟩) (by first | (rw [add_block]; exact hn320_0) | (show (Addr.add _ _).block ≠ _; rw [add_block]; exact hn320_0) | exact hn320_0) (.bool true)).trans hx320_0
              replace hx320_1 := (cell_far (p := ⟨gb302, 1, none⟩) (by first | (rw [add_block]; exact hn320_0) | (show (Addr.add _ _).block ≠ _; rw [add_block]; exact hn320_0) | exact hn320_0) (.bool true)).trans hx320_1
              clear hn320_0
              replace p320 := eq_true p320
              replace q320 := eq_true q320
              obtain ⟨Ao35, co35, eo35⟩ := Kd.R_slice HO_303000.out
              subst eo35
              go_wp2_with (first | ((with_reducible refine gate_callee (f := 33) rfl ?_); refine goesL_ (some 75) rfl rfl Try.func33 (by kernel_rfl) rfl #[.agg #[.slice Ao35 x303000_1.length co35, .bool true, .int .i64 (wrap64 (((rd_T44 l0 t303).f0) - x6_1))]] rfl (by (try simp only [List.map_toArray, List.map_cons, List.map_nil]); first | done | rfl | (simp only [List.length_drop, List.length_take]; rfl)) ?_; (with_reducible refine (epactref09_Right.calls k1 _ _ x303000_1 true (wrap64 (((rd_T44 l0 t303).f0) - x6_1)) true _ ?side1 ?side2 A31.out).mono ?_); (case side1 => refine (Kd.R_reads' (e := 47) (base := w.heap.size) (ok := fun k_ => True) (n := x303000_1.length) (c := co35) ?_).2.2; exact (by (with_reducible repeat (first | apply Kd.R_alloc | apply Kd.R_drewN | apply Kd.R_drew)); exact (Kd.R_mono (Kd.R_far (p := ⟨gb302, 2, none⟩) (Kd.R_far (p := ⟨gb302, 1, none⟩) (Kd.R_types HO_303000.out BK302.out (by decide)) (fun _ hk => hk.2) (.bool true)) (fun _ hk => hk.2) (.int .i64 (wrap64 (((rd_T44 l0 t303).f0) - x6_1)))) (fun _ h_ => h_.1)))); (case side2 => exact (Kd.R_reads' HO_303000.out).2.1); rintro e w36 ⟨rfl, hb⟩; refine ⟨_, rfl, ?_⟩; have n0_ := Aside0.mk (Kd.R_below (by (with_reducible repeat (first | apply Kd.R_alloc | apply Kd.R_drewN | apply Kd.R_drew)); exact (Kd.R_mono (Kd.R_far (p := ⟨gb302, 2, none⟩) (Kd.R_far (p := ⟨gb302, 1, none⟩) (Kd.R_types HO_303000.out BK302.out (by decide)) (fun _ hk => hk.2) (.bool true)) (fun _ hk => hk.2) (.int .i64 (wrap64 (((rd_T44 l0 t303).f0) - x6_1)))) (fun _ h_ => h_.1))) hb); have n1_ := Aside0.mk (blk_below (g := gb301) (o := .cells #[.slice none 0 0, .bool x302001_1, .int .i64 x302002_1] 24 (0, 0)) (by (with_reducible repeat (first | refine blk_drewN ?_ _ | refine blk_drew ?_ | refine blk_alloc ?_ _)); refine blk_far ?_ NB301_302.out _; (with_reducible repeat (first | refine blk_drewN ?_ _ | refine blk_drew ?_ | refine blk_alloc ?_ _)); refine blk_far ?_ NB301_302.out _; (with_reducible repeat (first | refine blk_drewN ?_ _ | refine blk_drew ?_ | refine blk_alloc ?_ _)); exact BK301.out) hb); have n2_ := Aside0.mk (blk_below (g := gb302) (o := .cells #[.slice Ao35 x303000_1.length co35, .bool true, .int .i64 (wrap64 (((rd_T44 l0 t303).f0) - x6_1))] 24 (0, 0)) (by (with_reducible repeat (first | refine blk_drewN ?_ _ | refine blk_drew ?_ | refine blk_alloc ?_ _)); refine blk_put (cs := #[.slice Ao35 x303000_1.length co35, .bool true, .int .i64 0]) ?_ 2 _ rfl; (with_reducible repeat (first | refine blk_drewN ?_ _ | refine blk_drew ?_ | refine blk_alloc ?_ _)); refine blk_put (cs := #[.slice Ao35 x303000_1.length co35, .bool false, .int .i64 0]) ?_ 1 _ rfl; (with_reducible repeat (first | refine blk_drewN ?_ _ | refine blk_drew ?_ | refine blk_alloc ?_ _)); exact BK302.out) hb); have n3_ := Aside0.mk (below_step (by repeat (first | (with_reducible first | exact HB.out | apply below_alloc | apply pw_below_drewN | apply below_drew1 | refine below_set ?_ GE301.out | refine below_set ?_ GE302.out) | exact HB.out)) hb); clear HO_303000; clear BK301; clear BK302; clear HB; have HO_303000 := n0_; have BK301 := n1_; have BK302 := n2_; have HB := n3_; clear n0_ n1_ n2_ n3_; (try clear hb); (try clear hb2); (try clear hk); (try clear hi); have hcz37_0 : w36.cell? ⟨gb302, 0, none⟩ = some (.slice Ao35 x303000_1.length co35) := (blk_cell BK302.out 0).trans rfl; have hcz37_1 : w36.cell? ⟨gb302, 1, none⟩ = some (.bool true) := (blk_cell BK302.out 1).trans rfl; have hcz37_2 : w36.cell? ⟨gb302, 2, none⟩ = some (.int .i64 (wrap64 (((rd_T44 l0 t303).f0) - x6_1))) := (blk_cell BK302.out 2).trans rfl; have hfz37_0 := blk_frozen BK302.out 0; have hfz37_1 := blk_frozen BK302.out 1; have hfz37_2 := blk_frozen BK302.out 2; have hcz38_0 : w36.cell? ⟨gb301, 0, none⟩ = some (.slice none 0 0) := (blk_cell BK301.out 0).trans rfl; have hcz38_1 : w36.cell? ⟨gb301, 1, none⟩ = some (.bool x302001_1) := (blk_cell BK301.out 1).trans rfl; have hcz38_2 : w36.cell? ⟨gb301, 2, none⟩ = some (.int .i64 x302002_1) := (blk_cell BK301.out 2).trans rfl; have hfz38_0 := blk_frozen BK301.out 0; have hfz38_1 := blk_frozen BK301.out 1; have hfz38_2 := blk_frozen BK301.out 2))
              refine bodyPost_ret (results_ct rfl _ _ gb301 24 #[.slice Ao35 x303000_1.length co35, .bool true, .int .i64 (wrap64 (((rd_T44 l0 t303).f0) - x6_1))] (0, 0) _ rfl (by (with_reducible repeat (first | refine blk_drewN ?_ _ | refine blk_drew ?_ | refine blk_alloc ?_ _)); refine blk_put (cs := #[.slice Ao35 x303000_1.length co35, .bool true, .int .i64 x302002_1]) ?_ 2 _ rfl; (with_reducible repeat (first | refine blk_drewN ?_ _ | refine blk_drew ?_ | refine blk_alloc ?_ _)); refine blk_put (cs := #[.slice Ao35 x303000_1.length co35, .bool x302001_1, .int .i64 x302002_1]) ?_ 1 _ rfl; (with_reducible repeat (first | refine blk_drewN ?_ _ | refine blk_drew ?_ | refine blk_alloc ?_ _)); refine blk_put (cs := #[.slice none 0 0, .bool x302001_1, .int .i64 x302002_1]) ?_ 0 _ rfl; (with_reducible repeat (first | refine blk_drewN ?_ _ | refine blk_drew ?_ | refine blk_alloc ?_ _)); exact BK301.out) Try.underlying24 rfl (by kernel_rfl)) rfl ?_
              exact ⟨_, by first | rfl | (simp [errW_none, errW_some] <;> rfl) | (simp [*, errW_none, errW_some] <;> rfl), by (with_reducible repeat (first | apply Kd.R_alloc | apply Kd.R_drewN | apply Kd.R_drew)); exact Kd.R_mono (Kd.R_far (p := ⟨gb301, 2, none⟩) (Kd.R_far (p := ⟨gb301, 1, none⟩) (Kd.R_far (p := ⟨gb301, 0, none⟩) (Kd.R_types HO_303000.out BK301.out (by decide)) (fun _ hk => hk.2) (.slice Ao35 x303000_1.length co35)) (fun _ hk => hk.2) (.bool true)) (fun _ hk => hk.2) (.int .i64 (wrap64 (((rd_T44 l0 t303).f0) - x6_1)))) (fun _ hk => trivial), by repeat (first | (with_reducible first | exact HB.out | apply below_alloc | apply pw_below_drewN | apply below_drew1 | refine below_set ?_ GE301.out | refine below_set ?_ GE302.out) | exact HB.out)⟩
            · replace c32 := Bool.eq_false_iff.mpr c32
              subst c32
              have H1 : (some (([] : List (S47)), false, 0, false)) = some (r1, r2, r3, r4) := by rw [if_neg (show ¬ (false = true) by decide)] at H; exact H
              clear H
              have H := H1
              clear H1
              simp only [Option.some.injEq, Prod.mk.injEq] at H
              obtain ⟨rfl, rfl, rfl, rfl⟩ := H
              have hnb39 := NB302_301.out
              have hnc39 := NB301_302.out
              have hcz40_0 : wr.cell? ⟨gb302, 0, none⟩ = some (u303000) := (blk_cell BK302.out 0).trans rfl
              have hcz40_1 : wr.cell? ⟨gb302, 1, none⟩ = some (.bool false) := (blk_cell BK302.out 1).trans rfl
              have hcz40_2 : wr.cell? ⟨gb302, 2, none⟩ = some (.int .i64 0) := (blk_cell BK302.out 2).trans rfl
              have hfz40_0 := blk_frozen BK302.out 0
              have hfz40_1 := blk_frozen BK302.out 1
              have hfz40_2 := blk_frozen BK302.out 2
              have p320 : 0 ≤ (t303 : Int) := of_decide_eq_true (by first | (with_reducible assumption) | assumption)
              have q320 : t303 < (l0.length : Int) := of_decide_eq_true (by first | (with_reducible assumption) | assumption)
              obtain ⟨ad320, e320, hx320_0, hx320_1⟩ := at_T44 HR0.out t303 p320 q320
              cases e320
              have hn320_0 : ad320.block ≠ gb302 := Nat.ne_of_lt (Nat.lt_of_lt_of_le (by have := World.block_lt_of_cell? _ _ hx320_0; first | rwa [add_block] at this | exact this) GW302.out)
              replace hx320_0 := (HB.out.cell (World.block_lt_of_cell? w _ hx320_0)).trans hx320_0
              replace hx320_1 := (HB.out.cell (World.block_lt_of_cell? w _ hx320_1)).trans hx320_1
              replace hx320_0 := (cell_far (p := ⟨gb302, 1, none⟩) (by first | (rw [add_block]; exact hn320_0) | (show (Addr.add _ _).block ≠ _; rw [add_block]; exact hn320_0) | exact hn320_0) (.bool true)).trans hx320_0
              replace hx320_1 := (cell_far (p := ⟨gb302, 1, none⟩) (by first | (rw [add_block]; exact hn320_0) | (show (Addr.add _ _).block ≠ _; rw [add_block]; exact hn320_0) | exact hn320_0) (.bool true)).trans hx320_1
              clear hn320_0
              replace p320 := eq_true p320
              replace q320 := eq_true q320
              obtain ⟨Ao41, co41, eo41⟩ := Kd.R_slice HO_303000.out
              subst eo41
              go_wp2_with (first | ((with_reducible refine gate_callee (f := 33) rfl ?_); refine goesL_ (some 75) rfl rfl Try.func33 (by kernel_rfl) rfl #[.agg #[.slice Ao41 x303000_1.length co41, .bool true, .int .i64 (wrap64 (((rd_T44 l0 t303).f0) - x6_1))]] rfl (by (try simp only [List.map_toArray, List.map_cons, List.map_nil]); first | done | rfl | (simp only [List.length_drop, List.length_take]; rfl)) ?_; (with_reducible refine (epactref09_Right.calls k1 _ _ x303000_1 true (wrap64 (((rd_T44 l0 t303).f0) - x6_1)) false _ ?side1 ?side2 A31.out).mono ?_); (case side1 => refine (Kd.R_reads' (e := 47) (base := w.heap.size) (ok := fun k_ => True) (n := x303000_1.length) (c := co41) ?_).2.2; exact (by (with_reducible repeat (first | apply Kd.R_alloc | apply Kd.R_drewN | apply Kd.R_drew)); exact (Kd.R_mono (Kd.R_far (p := ⟨gb302, 2, none⟩) (Kd.R_far (p := ⟨gb302, 1, none⟩) (Kd.R_types HO_303000.out BK302.out (by decide)) (fun _ hk => hk.2) (.bool true)) (fun _ hk => hk.2) (.int .i64 (wrap64 (((rd_T44 l0 t303).f0) - x6_1)))) (fun _ h_ => h_.1)))); (case side2 => exact (Kd.R_reads' HO_303000.out).2.1); rintro e w42 ⟨rfl, hb⟩; refine ⟨_, rfl, ?_⟩; have n0_ := Aside0.mk (Kd.R_below (by (with_reducible repeat (first | apply Kd.R_alloc | apply Kd.R_drewN | apply Kd.R_drew)); exact (Kd.R_mono (Kd.R_far (p := ⟨gb302, 2, none⟩) (Kd.R_far (p := ⟨gb302, 1, none⟩) (Kd.R_types HO_303000.out BK302.out (by decide)) (fun _ hk => hk.2) (.bool true)) (fun _ hk => hk.2) (.int .i64 (wrap64 (((rd_T44 l0 t303).f0) - x6_1)))) (fun _ h_ => h_.1))) hb); have n1_ := Aside0.mk (blk_below (g := gb301) (o := .cells #[.slice none 0 0, .bool x302001_1, .int .i64 x302002_1] 24 (0, 0)) (by (with_reducible repeat (first | refine blk_drewN ?_ _ | refine blk_drew ?_ | refine blk_alloc ?_ _)); refine blk_far ?_ NB301_302.out _; (with_reducible repeat (first | refine blk_drewN ?_ _ | refine blk_drew ?_ | refine blk_alloc ?_ _)); refine blk_far ?_ NB301_302.out _; (with_reducible repeat (first | refine blk_drewN ?_ _ | refine blk_drew ?_ | refine blk_alloc ?_ _)); exact BK301.out) hb); have n2_ := Aside0.mk (blk_below (g := gb302) (o := .cells #[.slice Ao41 x303000_1.length co41, .bool true, .int .i64 (wrap64 (((rd_T44 l0 t303).f0) - x6_1))] 24 (0, 0)) (by (with_reducible repeat (first | refine blk_drewN ?_ _ | refine blk_drew ?_ | refine blk_alloc ?_ _)); refine blk_put (cs := #[.slice Ao41 x303000_1.length co41, .bool true, .int .i64 0]) ?_ 2 _ rfl; (with_reducible repeat (first | refine blk_drewN ?_ _ | refine blk_drew ?_ | refine blk_alloc ?_ _)); refine blk_put (cs := #[.slice Ao41 x303000_1.length co41, .bool false, .int .i64 0]) ?_ 1 _ rfl; (with_reducible repeat (first | refine blk_drewN ?_ _ | refine blk_drew ?_ | refine blk_alloc ?_ _)); exact BK302.out) hb); have n3_ := Aside0.mk (below_step (by repeat (first | (with_reducible first | exact HB.out | apply below_alloc | apply pw_below_drewN | apply below_drew1 | refine below_set ?_ GE301.out | refine below_set ?_ GE302.out) | exact HB.out)) hb); clear HO_303000; clear BK301; clear BK302; clear HB; have HO_303000 := n0_; have BK301 := n1_; have BK302 := n2_; have HB := n3_; clear n0_ n1_ n2_ n3_; (try clear hb); (try clear hb2); (try clear hk); (try clear hi); have hcz43_0 : w42.cell? ⟨gb301, 0, none⟩ = some (.slice none 0 0) := (blk_cell BK301.out 0).trans rfl; have hcz43_1 : w42.cell? ⟨gb301, 1, none⟩ = some (.bool x302001_1) := (blk_cell BK301.out 1).trans rfl; have hcz43_2 : w42.cell? ⟨gb301, 2, none⟩ = some (.int .i64 x302002_1) := (blk_cell BK301.out 2).trans rfl; have hfz43_0 := blk_frozen BK301.out 0; have hfz43_1 := blk_frozen BK301.out 1; have hfz43_2 := blk_frozen BK301.out 2))
              refine bodyPost_ret (results_ct rfl _ _ gb301 24 #[.slice none 0 0, .bool false, .int .i64 0] (0, 0) _ rfl (by (with_reducible repeat (first | refine blk_drewN ?_ _ | refine blk_drew ?_ | refine blk_alloc ?_ _)); refine blk_put (cs := #[.slice none 0 0, .bool false, .int .i64 x302002_1]) ?_ 2 _ rfl; (with_reducible repeat (first | refine blk_drewN ?_ _ | refine blk_drew ?_ | refine blk_alloc ?_ _)); refine blk_put (cs := #[.slice none 0 0, .bool x302001_1, .int .i64 x302002_1]) ?_ 1 _ rfl; (with_reducible repeat (first | refine blk_drewN ?_ _ | refine blk_drew ?_ | refine blk_alloc ?_ _)); refine blk_put (cs := #[.slice none 0 0, .bool x302001_1, .int .i64 x302002_1]) ?_ 0 _ rfl; (with_reducible repeat (first | refine blk_drewN ?_ _ | refine blk_drew ?_ | refine blk_alloc ?_ _)); exact BK301.out) Try.underlying24 rfl (by kernel_rfl)) rfl ?_
              exact ⟨_, by first | rfl | (simp [errW_none, errW_some] <;> rfl) | (simp [*, errW_none, errW_some] <;> rfl), by first | exact Kd.R_nil _ _ _ _ _ | exact Kd.N_nil _ _ _ _ _ | exact Kd.V_nil _ _ _ _ _ | exact Kd.Q_nil _ _ _ _ _ | exact Kd.S_nil _ _ _ _ _, by repeat (first | (with_reducible first | exact HB.out | apply below_alloc | apply pw_below_drewN | apply below_drew1 | refine below_set ?_ GE301.out | refine below_set ?_ GE302.out) | exact HB.out)⟩
          · rw [if_neg c30] at H
            exact absurd H (by simp)
        · rw [if_neg c29] at H
          have c29b0 : decide (t303 < (l0.length : Int)) = false := decide_eq_false c29
          clear c29
          replace H := Option.bind_eq_some_iff.mp H
          obtain ⟨t322, A440, H⟩ := H
          replace H : (if t322 = true then (some (x303000_1, false, 0, true)) else (some (([] : List (S47)), false, 0, false))) = some (r1, r2, r3, r4) := H
          have A44 := Aside0.mk A440
          clear A440
          by_cases c45 : t322 = true
          · subst c45
            have H1 : (some (x303000_1, false, 0, true)) = some (r1, r2, r3, r4) := by rw [if_pos rfl] at H; exact H
            clear H
            have H := H1
            clear H1
            simp only [Option.some.injEq, Prod.mk.injEq] at H
            obtain ⟨rfl, rfl, rfl, rfl⟩ := H
            have hnb46 := NB302_301.out
            have hnc46 := NB301_302.out
            have hcz47_0 : wr.cell? ⟨gb302, 0, none⟩ = some (u303000) := (blk_cell BK302.out 0).trans rfl
            have hcz47_1 : wr.cell? ⟨gb302, 1, none⟩ = some (.bool false) := (blk_cell BK302.out 1).trans rfl
            have hcz47_2 : wr.cell? ⟨gb302, 2, none⟩ = some (.int .i64 0) := (blk_cell BK302.out 2).trans rfl
            have hfz47_0 := blk_frozen BK302.out 0
            have hfz47_1 := blk_frozen BK302.out 1
            have hfz47_2 := blk_frozen BK302.out 2
            obtain ⟨Ao48, co48, eo48⟩ := Kd.R_slice HO_303000.out
            subst eo48
            go_wp2_with (first | ((with_reducible refine gate_callee (f := 33) rfl ?_); refine goesL_ (some 75) rfl rfl Try.func33 (by kernel_rfl) rfl #[.agg #[.slice Ao48 x303000_1.length co48, .bool false, .int .i64 0]] rfl (by (try simp only [List.map_toArray, List.map_cons, List.map_nil]); first | done | rfl | (simp only [List.length_drop, List.length_take]; rfl)) ?_; (with_reducible refine (epactref09_Right.calls k1 _ _ x303000_1 false 0 true _ ?side1 ?side2 A44.out).mono ?_); (case side1 => repeat (first | exact (Kd.R_reads' HO_303000.out).2.2 | (with_reducible refine Kd.C_alloc ?_ _) | (with_reducible refine Kd.C_drewN ?_ _) | (with_reducible refine Kd.C_drew ?_))); (case side2 => exact (Kd.R_reads' HO_303000.out).2.1); rintro e w49 ⟨rfl, hb⟩; refine ⟨_, rfl, ?_⟩; have n0_ := Aside0.mk (Kd.R_below (by (with_reducible repeat (first | apply Kd.R_alloc | apply Kd.R_drewN | apply Kd.R_drew)); exact HO_303000.out) hb); have n1_ := Aside0.mk (blk_below (g := gb301) (o := .cells #[.slice none 0 0, .bool x302001_1, .int .i64 x302002_1] 24 (0, 0)) (by (with_reducible repeat (first | refine blk_drewN ?_ _ | refine blk_drew ?_ | refine blk_alloc ?_ _)); exact BK301.out) hb); have n2_ := Aside0.mk (blk_below (g := gb302) (o := .cells #[.slice Ao48 x303000_1.length co48, .bool false, .int .i64 0] 24 (0, 0)) (by (with_reducible repeat (first | refine blk_drewN ?_ _ | refine blk_drew ?_ | refine blk_alloc ?_ _)); exact BK302.out) hb); have n3_ := Aside0.mk (below_step (by repeat (first | (with_reducible first | exact HB.out | apply below_alloc | apply pw_below_drewN | apply below_drew1 | refine below_set ?_ GE301.out | refine below_set ?_ GE302.out) | exact HB.out)) hb); clear HO_303000; clear BK301; clear BK302; clear HB; have HO_303000 := n0_; have BK301 := n1_; have BK302 := n2_; have HB := n3_; clear n0_ n1_ n2_ n3_; (try clear hb); (try clear hb2); (try clear hk); (try clear hi); have hcz50_0 : w49.cell? ⟨gb302, 0, none⟩ = some (.slice Ao48 x303000_1.length co48) := (blk_cell BK302.out 0).trans rfl; have hcz50_1 : w49.cell? ⟨gb302, 1, none⟩ = some (.bool false) := (blk_cell BK302.out 1).trans rfl; have hcz50_2 : w49.cell? ⟨gb302, 2, none⟩ = some (.int .i64 0) := (blk_cell BK302.out 2).trans rfl; have hfz50_0 := blk_frozen BK302.out 0; have hfz50_1 := blk_frozen BK302.out 1; have hfz50_2 := blk_frozen BK302.out 2; have hcz51_0 : w49.cell? ⟨gb301, 0, none⟩ = some (.slice none 0 0) := (blk_cell BK301.out 0).trans rfl; have hcz51_1 : w49.cell? ⟨gb301, 1, none⟩ = some (.bool x302001_1) := (blk_cell BK301.out 1).trans rfl; have hcz51_2 : w49.cell? ⟨gb301, 2, none⟩ = some (.int .i64 x302002_1) := (blk_cell BK301.out 2).trans rfl; have hfz51_0 := blk_frozen BK301.out 0; have hfz51_1 := blk_frozen BK301.out 1; have hfz51_2 := blk_frozen BK301.out 2))
            refine bodyPost_ret (results_ct rfl _ _ gb301 24 #[.slice Ao48 x303000_1.length co48, .bool false, .int .i64 0] (0, 0) _ rfl (by (with_reducible repeat (first | refine blk_drewN ?_ _ | refine blk_drew ?_ | refine blk_alloc ?_ _)); refine blk_put (cs := #[.slice Ao48 x303000_1.length co48, .bool false, .int .i64 x302002_1]) ?_ 2 _ rfl; (with_reducible repeat (first | refine blk_drewN ?_ _ | refine blk_drew ?_ | refine blk_alloc ?_ _)); refine blk_put (cs := #[.slice Ao48 x303000_1.length co48, .bool x302001_1, .int .i64 x302002_1]) ?_ 1 _ rfl; (with_reducible repeat (first | refine blk_drewN ?_ _ | refine blk_drew ?_ | refine blk_alloc ?_ _)); refine blk_put (cs := #[.slice none 0 0, .bool x302001_1, .int .i64 x302002_1]) ?_ 0 _ rfl; (with_reducible repeat (first | refine blk_drewN ?_ _ | refine blk_drew ?_ | refine blk_alloc ?_ _)); exact BK301.out) Try.underlying24 rfl (by kernel_rfl)) rfl ?_
            exact ⟨_, by first | rfl | (simp [errW_none, errW_some] <;> rfl) | (simp [*, errW_none, errW_some] <;> rfl), by (with_reducible repeat (first | apply Kd.R_alloc | apply Kd.R_drewN | apply Kd.R_drew)); exact Kd.R_mono (Kd.R_far (p := ⟨gb301, 2, none⟩) (Kd.R_far (p := ⟨gb301, 1, none⟩) (Kd.R_far (p := ⟨gb301, 0, none⟩) (Kd.R_types HO_303000.out BK301.out (by decide)) (fun _ hk => hk.2) (.slice Ao48 x303000_1.length co48)) (fun _ hk => hk.2) (.bool false)) (fun _ hk => hk.2) (.int .i64 0)) (fun _ hk => trivial), by repeat (first | (with_reducible first | exact HB.out | apply below_alloc | apply pw_below_drewN | apply below_drew1 | refine below_set ?_ GE301.out | refine below_set ?_ GE302.out) | exact HB.out)⟩
          · replace c45 := Bool.eq_false_iff.mpr c45
            subst c45
            have H1 : (some (([] : List (S47)), false, 0, false)) = some (r1, r2, r3, r4) := by rw [if_neg (show ¬ (false = true) by decide)] at H; exact H
            clear H
            have H := H1
            clear H1
            simp only [Option.some.injEq, Prod.mk.injEq] at H
            obtain ⟨rfl, rfl, rfl, rfl⟩ := H
            have hnb52 := NB302_301.out
            have hnc52 := NB301_302.out
            have hcz53_0 : wr.cell? ⟨gb302, 0, none⟩ = some (u303000) := (blk_cell BK302.out 0).trans rfl
            have hcz53_1 : wr.cell? ⟨gb302, 1, none⟩ = some (.bool false) := (blk_cell BK302.out 1).trans rfl
            have hcz53_2 : wr.cell? ⟨gb302, 2, none⟩ = some (.int .i64 0) := (blk_cell BK302.out 2).trans rfl
            have hfz53_0 := blk_frozen BK302.out 0
            have hfz53_1 := blk_frozen BK302.out 1
            have hfz53_2 := blk_frozen BK302.out 2
            obtain ⟨Ao54, co54, eo54⟩ := Kd.R_slice HO_303000.out
            subst eo54
            go_wp2_with (first | ((with_reducible refine gate_callee (f := 33) rfl ?_); refine goesL_ (some 75) rfl rfl Try.func33 (by kernel_rfl) rfl #[.agg #[.slice Ao54 x303000_1.length co54, .bool false, .int .i64 0]] rfl (by (try simp only [List.map_toArray, List.map_cons, List.map_nil]); first | done | rfl | (simp only [List.length_drop, List.length_take]; rfl)) ?_; (with_reducible refine (epactref09_Right.calls k1 _ _ x303000_1 false 0 false _ ?side1 ?side2 A44.out).mono ?_); (case side1 => repeat (first | exact (Kd.R_reads' HO_303000.out).2.2 | (with_reducible refine Kd.C_alloc ?_ _) | (with_reducible refine Kd.C_drewN ?_ _) | (with_reducible refine Kd.C_drew ?_))); (case side2 => exact (Kd.R_reads' HO_303000.out).2.1); rintro e w55 ⟨rfl, hb⟩; refine ⟨_, rfl, ?_⟩; have n0_ := Aside0.mk (Kd.R_below (by (with_reducible repeat (first | apply Kd.R_alloc | apply Kd.R_drewN | apply Kd.R_drew)); exact HO_303000.out) hb); have n1_ := Aside0.mk (blk_below (g := gb301) (o := .cells #[.slice none 0 0, .bool x302001_1, .int .i64 x302002_1] 24 (0, 0)) (by (with_reducible repeat (first | refine blk_drewN ?_ _ | refine blk_drew ?_ | refine blk_alloc ?_ _)); exact BK301.out) hb); have n2_ := Aside0.mk (blk_below (g := gb302) (o := .cells #[.slice Ao54 x303000_1.length co54, .bool false, .int .i64 0] 24 (0, 0)) (by (with_reducible repeat (first | refine blk_drewN ?_ _ | refine blk_drew ?_ | refine blk_alloc ?_ _)); exact BK302.out) hb); have n3_ := Aside0.mk (below_step (by repeat (first | (with_reducible first | exact HB.out | apply below_alloc | apply pw_below_drewN | apply below_drew1 | refine below_set ?_ GE301.out | refine below_set ?_ GE302.out) | exact HB.out)) hb); clear HO_303000; clear BK301; clear BK302; clear HB; have HO_303000 := n0_; have BK301 := n1_; have BK302 := n2_; have HB := n3_; clear n0_ n1_ n2_ n3_; (try clear hb); (try clear hb2); (try clear hk); (try clear hi); have hcz56_0 : w55.cell? ⟨gb301, 0, none⟩ = some (.slice none 0 0) := (blk_cell BK301.out 0).trans rfl; have hcz56_1 : w55.cell? ⟨gb301, 1, none⟩ = some (.bool x302001_1) := (blk_cell BK301.out 1).trans rfl; have hcz56_2 : w55.cell? ⟨gb301, 2, none⟩ = some (.int .i64 x302002_1) := (blk_cell BK301.out 2).trans rfl; have hfz56_0 := blk_frozen BK301.out 0; have hfz56_1 := blk_frozen BK301.out 1; have hfz56_2 := blk_frozen BK301.out 2))
            refine bodyPost_ret (results_ct rfl _ _ gb301 24 #[.slice none 0 0, .bool false, .int .i64 0] (0, 0) _ rfl (by (with_reducible repeat (first | refine blk_drewN ?_ _ | refine blk_drew ?_ | refine blk_alloc ?_ _)); refine blk_put (cs := #[.slice none 0 0, .bool false, .int .i64 x302002_1]) ?_ 2 _ rfl; (with_reducible repeat (first | refine blk_drewN ?_ _ | refine blk_drew ?_ | refine blk_alloc ?_ _)); refine blk_put (cs := #[.slice none 0 0, .bool x302001_1, .int .i64 x302002_1]) ?_ 1 _ rfl; (with_reducible repeat (first | refine blk_drewN ?_ _ | refine blk_drew ?_ | refine blk_alloc ?_ _)); refine blk_put (cs := #[.slice none 0 0, .bool x302001_1, .int .i64 x302002_1]) ?_ 0 _ rfl; (with_reducible repeat (first | refine blk_drewN ?_ _ | refine blk_drew ?_ | refine blk_alloc ?_ _)); exact BK301.out) Try.underlying24 rfl (by kernel_rfl)) rfl ?_
            exact ⟨_, by first | rfl | (simp [errW_none, errW_some] <;> rfl) | (simp [*, errW_none, errW_some] <;> rfl), by first | exact Kd.R_nil _ _ _ _ _ | exact Kd.N_nil _ _ _ _ _ | exact Kd.V_nil _ _ _ _ _ | exact Kd.Q_nil _ _ _ _ _ | exact Kd.S_nil _ _ _ _ _, by repeat (first | (with_reducible first | exact HB.out | apply below_alloc | apply pw_below_drewN | apply below_drew1 | refine below_set ?_ GE301.out | refine below_set ?_ GE302.out) | exact HB.out)⟩

/-! ### epactref12_Sum: function 25 -/
def epactref12_Sum.l0 : Nat → List (S44) → Int → Int → Int → Option (Int)
  | 0, _, _, _, _ => none
  | k + 1, x0, x1, x5, x6 => (epactref12_leaps.f x0).bind fun t323 => (if x6 < t323 then (if 0 ≤ x6 then (if x6 < (x0.length : Int) then (if ((rd_T44 x0 x6).f0) ≤ x1 then (epactref12_Sum.l0 k x0 x1 ((rd_T44 x0 x6).f1) (wrap64 (x6 + 1))) else (epactref12_Sum.l0 k x0 x1 x5 (wrap64 (x6 + 1)))) else (none)) else (none)) else (some x5))
def epactref12_Sum.f (k : Nat) (l0 : List (S44)) (a1 : Int) : Option (Int) := epactref12_Sum.l0 k l0 a1 0 0
theorem epactref12_Sum.mono_l : ∀ k, (∀ y0 y1 y2 y3, LeO (epactref12_Sum.l0 k y0 y1 y2 y3) (epactref12_Sum.l0 (k + 1) y0 y1 y2 y3))
  | 0 => fun _ _ _ _ r h => by simp [epactref12_Sum.l0] at h
  | k + 1 => by
    have ih0 := epactref12_Sum.mono_l k
    · intro y0 y1 y2 y3
      unfold epactref12_Sum.l0
      repeat' first
      | (with_reducible exact ih0 _ _ _ _)
      | (with_reducible exact LeO.refl _)
      | (with_reducible exact LeO.none _)
      | (with_reducible refine LeO.ite ?_ ?_)
      | (with_reducible refine LeO.bind ?_ (fun _ => ?_))
      | exact ih0 _ _ _ _
      | exact LeO.none _
      | refine LeO.ite ?_ ?_
      | refine LeO.bind ?_ (fun _ => ?_)
theorem epactref12_Sum.mono : ∀ a0 a1 k, LeO (epactref12_Sum.f k a0 a1) (epactref12_Sum.f (k + 1) a0 a1) := by
  intro a0 a1 k
  have ih0 := epactref12_Sum.mono_l k
  unfold epactref12_Sum.f
  repeat' first
      | (with_reducible exact ih0 _ _ _ _)
      | (with_reducible exact LeO.refl _)
      | (with_reducible exact LeO.none _)
      | (with_reducible refine LeO.ite ?_ ?_)
      | (with_reducible refine LeO.bind ?_ (fun _ => ?_))
      | exact ih0 _ _ _ _
      | exact LeO.none _
      | refine LeO.ite ?_ ?_
      | refine LeO.bind ?_ (fun _ => ?_)
set_option maxHeartbeats 8000000 in
set_option maxRecDepth 100000 in
theorem epactref12_Sum.calls (k : Nat) (A0 : Option Addr) (c0 : Nat) (l0 : List (S44)) (a1 : Int) (r : Int) (w : World) (hr0 : Kd.C k44 w A0 l0.length l0) (hc0 : l0.length ≤ c0) (h : epactref12_Sum.f k l0 a1 = some r) :
    Calls Try.prog 25 #[.slice A0 l0.length c0, .int .i64 a1] w fun e w' => e = .returned (.int .i64 r) ∧ Drawn0 w w' := by
  have HR0 := Aside0.mk hr0
  have HC0 := Aside0.mk hc0
  clear hr0 hc0
  have H : (epactref12_Sum.l0 k l0 a1 0 0) = some r := h
  clear h
  have H' := Aside0.mk H
  clear H
  go_enter Try.func25, Try.ntmps25
  go_wp2
  go_loopg [5, 6] k (fun kq v5 v6 w' => ∃ (x5_1 : Int) (x6_1 : Int), v5 = .int .i64 x5_1 ∧ v6 = .int .i64 x6_1 ∧ Aside0 (epactref12_Sum.l0 kq l0 a1 x5_1 x6_1 = some r) ∧ Aside0 (kq ≤ k) ∧ Drawn0 w w')
  case atStart => exact ⟨(0), (0), (by first | rfl | (simp; done) | (simp [*]; done)), (by first | rfl | (simp; done) | (simp [*]; done)), H', ⟨Nat.le_refl _⟩, by repeat (first | exact Drawn0.refl _ | apply Drawn0.step)⟩
  case round =>
    clear H'
    try clear c2
    try clear p2
    obtain ⟨x5_1, x6_1, rfl, rfl, HA, HK1, ⟨m1, rfl⟩⟩ := hrel
    cases gk with
    | zero => exact absurd HA.out (by simp [epactref12_Sum.l0])
    | succ k1 =>
      have H := HA.out
      clear HA
      simp only [epactref12_Sum.l0] at H
      replace H := Option.bind_eq_some_iff.mp H
      obtain ⟨t323, A30, H⟩ := H
      replace H : (if x6_1 < t323 then (if 0 ≤ x6_1 then (if x6_1 < (l0.length : Int) then (if ((rd_T44 l0 x6_1).f0) ≤ a1 then (epactref12_Sum.l0 k1 l0 a1 ((rd_T44 l0 x6_1).f1) (wrap64 (x6_1 + 1))) else (epactref12_Sum.l0 k1 l0 a1 x5_1 (wrap64 (x6_1 + 1)))) else (none)) else (none)) else (some x5_1)) = some r := H
      have A3 := Aside0.mk A30
      clear A30
      by_cases c4 : x6_1 < t323
      · rw [if_pos c4] at H
        have c4b0 : decide (x6_1 < t323) = true := decide_eq_true c4
        clear c4
        by_cases c5 : 0 ≤ x6_1
        · rw [if_pos c5] at H
          have c5b0 : decide (0 ≤ x6_1) = true := decide_eq_true c5
          clear c5
          by_cases c6 : x6_1 < (l0.length : Int)
          · rw [if_pos c6] at H
            have c6b0 : decide (x6_1 < (l0.length : Int)) = true := decide_eq_true c6
            clear c6
            by_cases c7 : ((rd_T44 l0 x6_1).f0) ≤ a1
            · rw [if_pos c7] at H
              have c7b0 : decide (((rd_T44 l0 x6_1).f0) ≤ a1) = true := decide_eq_true c7
              clear c7
              have H' := Aside0.mk H
              clear H
              go_wp2_with (first | ((with_reducible refine gate_callee (f := 39) rfl ?_); refine goesL_ (some 9) rfl rfl Try.func39 (by kernel_rfl) rfl #[.slice A0 l0.length c0] rfl (by (try simp only [List.map_toArray, List.map_cons, List.map_nil]); first | done | rfl | (simp only [List.length_drop, List.length_take]; rfl)) ?_; (with_reducible refine (epactref12_leaps.calls _ _ l0 t323 _ ?side1 ?side2 A3.out).mono ?_); (case side1 => repeat (first | exact HR0.out | (with_reducible refine Kd.C_alloc ?_ _) | (with_reducible refine Kd.C_drewN ?_ _) | (with_reducible refine Kd.C_drew ?_))); (case side2 => exact HC0.out); rintro e w' ⟨rfl, ⟨nd, rfl⟩⟩; refine ⟨_, rfl, ?_⟩; have p324 : 0 ≤ (x6_1 : Int) := of_decide_eq_true (by first | (with_reducible assumption) | assumption); have q324 : x6_1 < (l0.length : Int) := of_decide_eq_true (by first | (with_reducible assumption) | assumption); obtain ⟨ad324, e324, hx324_0, hx324_1⟩ := at_T44 HR0.out x6_1 p324 q324; cases e324; replace p324 := eq_true p324; replace q324 := eq_true q324; have p325 : 0 ≤ (x6_1 : Int) := of_decide_eq_true (by first | (with_reducible assumption) | assumption); have q325 : x6_1 < (l0.length : Int) := of_decide_eq_true (by first | (with_reducible assumption) | assumption); obtain ⟨ad325, e325, hx325_0, hx325_1⟩ := at_T44 HR0.out x6_1 p325 q325; obtain rfl : ad324 = ad325 := (by injection e325); replace p325 := eq_true p325; replace q325 := eq_true q325))
              go_roundg k1
              case measure => have := HK1.out; omega
              case rel => exact ⟨((rd_T44 l0 x6_1).f1), (wrap64 (x6_1 + 1)), (by first | rfl | (simp; done) | (simp [*]; done)), (by first | rfl | (simp; done) | (simp [*]; done)), H', ⟨by have := HK1.out; omega⟩, by repeat (first | exact Drawn0.refl _ | apply Drawn0.step)⟩
            · rw [if_neg c7] at H
              have c7b0 : decide (((rd_T44 l0 x6_1).f0) ≤ a1) = false := decide_eq_false c7
              clear c7
              have H' := Aside0.mk H
              clear H
              go_wp2_with (first | ((with_reducible refine gate_callee (f := 39) rfl ?_); refine goesL_ (some 9) rfl rfl Try.func39 (by kernel_rfl) rfl #[.slice A0 l0.length c0] rfl (by (try simp only [List.map_toArray, List.map_cons, List.map_nil]); first | done | rfl | (simp only [List.length_drop, List.length_take]; rfl)) ?_; (with_reducible refine (epactref12_leaps.calls _ _ l0 t323 _ ?side1 ?side2 A3.out).mono ?_); (case side1 => repeat (first | exact HR0.out | (with_reducible refine Kd.C_alloc ?_ _) | (with_reducible refine Kd.C_drewN ?_ _) | (with_reducible refine Kd.C_drew ?_))); (case side2 => exact HC0.out); rintro e w' ⟨rfl, ⟨nd, rfl⟩⟩; refine ⟨_, rfl, ?_⟩; have p324 : 0 ≤ (x6_1 : Int) := of_decide_eq_true (by first | (with_reducible assumption) | assumption); have q324 : x6_1 < (l0.length : Int) := of_decide_eq_true (by first | (with_reducible assumption) | assumption); obtain ⟨ad324, e324, hx324_0, hx324_1⟩ := at_T44 HR0.out x6_1 p324 q324; cases e324; replace p324 := eq_true p324; replace q324 := eq_true q324))
              go_roundg k1
              case measure => have := HK1.out; omega
              case rel => exact ⟨(x5_1), (wrap64 (x6_1 + 1)), (by first | rfl | (simp; done) | (simp [*]; done)), (by first | rfl | (simp; done) | (simp [*]; done)), H', ⟨by have := HK1.out; omega⟩, by repeat (first | exact Drawn0.refl _ | apply Drawn0.step)⟩
          · rw [if_neg c6] at H
            exact absurd H (by simp)
        · rw [if_neg c5] at H
          exact absurd H (by simp)
      · rw [if_neg c4] at H
        have c4b0 : decide (x6_1 < t323) = false := decide_eq_false c4
        clear c4
        obtain rfl := Option.some.inj H
        go_wp2_with (first | ((with_reducible refine gate_callee (f := 39) rfl ?_); refine goesL_ (some 9) rfl rfl Try.func39 (by kernel_rfl) rfl #[.slice A0 l0.length c0] rfl (by (try simp only [List.map_toArray, List.map_cons, List.map_nil]); first | done | rfl | (simp only [List.length_drop, List.length_take]; rfl)) ?_; (with_reducible refine (epactref12_leaps.calls _ _ l0 t323 _ ?side1 ?side2 A3.out).mono ?_); (case side1 => repeat (first | exact HR0.out | (with_reducible refine Kd.C_alloc ?_ _) | (with_reducible refine Kd.C_drewN ?_ _) | (with_reducible refine Kd.C_drew ?_))); (case side2 => exact HC0.out); rintro e w' ⟨rfl, ⟨nd, rfl⟩⟩; refine ⟨_, rfl, ?_⟩))
        go_ret
        exact ⟨by first | rfl | (simp; done) | (simp [*]; done), by repeat (first | exact Drawn0.refl _ | apply Drawn0.step)⟩

/-! ### epactref12_Step: function 27 -/
def epactref12_Step.l0 : Nat → List (S44) → Int → Int → Option (Int)
  | 0, _, _, _ => none
  | k + 1, x0, x1, x5 => (epactref12_leaps.f x0).bind fun t326 => (if x5 < t326 then (if 0 ≤ x5 then (if x5 < (x0.length : Int) then (if ((rd_T44 x0 x5).f0) = x1 then ((epactref12_ahead.f x0 x5).bind fun t329 => (some (wrap64 (((rd_T44 x0 x5).f1) - t329)))) else (epactref12_Step.l0 k x0 x1 (wrap64 (x5 + 1)))) else (none)) else (none)) else (some 0))
def epactref12_Step.f (k : Nat) (l0 : List (S44)) (a1 : Int) : Option (Int) := epactref12_Step.l0 k l0 a1 0
theorem epactref12_Step.mono_l : ∀ k, (∀ y0 y1 y2, LeO (epactref12_Step.l0 k y0 y1 y2) (epactref12_Step.l0 (k + 1) y0 y1 y2))
  | 0 => fun _ _ _ r h => by simp [epactref12_Step.l0] at h
  | k + 1 => by
    have ih0 := epactref12_Step.mono_l k
    · intro y0 y1 y2
      unfold epactref12_Step.l0
      repeat' first
      | (with_reducible exact ih0 _ _ _)
      | (with_reducible exact LeO.refl _)
      | (with_reducible exact LeO.none _)
      | (with_reducible refine LeO.ite ?_ ?_)
      | (with_reducible refine LeO.bind ?_ (fun _ => ?_))
      | exact ih0 _ _ _
      | exact LeO.none _
      | refine LeO.ite ?_ ?_
      | refine LeO.bind ?_ (fun _ => ?_)
theorem epactref12_Step.mono : ∀ a0 a1 k, LeO (epactref12_Step.f k a0 a1) (epactref12_Step.f (k + 1) a0 a1) := by
  intro a0 a1 k
  have ih0 := epactref12_Step.mono_l k
  unfold epactref12_Step.f
  repeat' first
      | (with_reducible exact ih0 _ _ _)
      | (with_reducible exact LeO.refl _)
      | (with_reducible exact LeO.none _)
      | (with_reducible refine LeO.ite ?_ ?_)
      | (with_reducible refine LeO.bind ?_ (fun _ => ?_))
      | exact ih0 _ _ _
      | exact LeO.none _
      | refine LeO.ite ?_ ?_
      | refine LeO.bind ?_ (fun _ => ?_)
set_option maxHeartbeats 8000000 in
set_option maxRecDepth 100000 in
theorem epactref12_Step.calls (k : Nat) (A0 : Option Addr) (c0 : Nat) (l0 : List (S44)) (a1 : Int) (r : Int) (w : World) (hr0 : Kd.C k44 w A0 l0.length l0) (hc0 : l0.length ≤ c0) (h : epactref12_Step.f k l0 a1 = some r) :
    Calls Try.prog 27 #[.slice A0 l0.length c0, .int .i64 a1] w fun e w' => e = .returned (.int .i64 r) ∧ Drawn0 w w' := by
  have HR0 := Aside0.mk hr0
  have HC0 := Aside0.mk hc0
  clear hr0 hc0
  have H : (epactref12_Step.l0 k l0 a1 0) = some r := h
  clear h
  have H' := Aside0.mk H
  clear H
  go_enter Try.func27, Try.ntmps27
  go_wp2
  repeat (go_quiet (fail); try go_wp2)
  go_loopg [5] k (fun kq v5 w' => ∃ (x5_1 : Int), v5 = .int .i64 x5_1 ∧ Aside0 (epactref12_Step.l0 kq l0 a1 x5_1 = some r) ∧ Aside0 (kq ≤ k) ∧ Drawn0 w w')
  case atStart => exact ⟨(0), (by first | rfl | (simp; done) | (simp [*]; done)), H', ⟨Nat.le_refl _⟩, by repeat (first | exact Drawn0.refl _ | apply Drawn0.step)⟩
  case round =>
    clear H'
    try clear c2
    try clear p2
    obtain ⟨x5_1, rfl, HA, HK1, ⟨m1, rfl⟩⟩ := hrel
    cases gk with
    | zero => exact absurd HA.out (by simp [epactref12_Step.l0])
    | succ k1 =>
      have H := HA.out
      clear HA
      simp only [epactref12_Step.l0] at H
      replace H := Option.bind_eq_some_iff.mp H
      obtain ⟨t326, A30, H⟩ := H
      replace H : (if x5_1 < t326 then (if 0 ≤ x5_1 then (if x5_1 < (l0.length : Int) then (if ((rd_T44 l0 x5_1).f0) = a1 then ((epactref12_ahead.f l0 x5_1).bind fun t329 => (some (wrap64 (((rd_T44 l0 x5_1).f1) - t329)))) else (epactref12_Step.l0 k1 l0 a1 (wrap64 (x5_1 + 1)))) else (none)) else (none)) else (some 0)) = some r := H
      have A3 := Aside0.mk A30
      clear A30
      by_cases c4 : x5_1 < t326
      · rw [if_pos c4] at H
        have c4b0 : decide (x5_1 < t326) = true := decide_eq_true c4
        clear c4
        by_cases c5 : 0 ≤ x5_1
        · rw [if_pos c5] at H
          have c5b0 : decide (0 ≤ x5_1) = true := decide_eq_true c5
          clear c5
          by_cases c6 : x5_1 < (l0.length : Int)
          · rw [if_pos c6] at H
            have c6b0 : decide (x5_1 < (l0.length : Int)) = true := decide_eq_true c6
            clear c6
            by_cases c7 : ((rd_T44 l0 x5_1).f0) = a1
            · rw [if_pos c7] at H
              have c7b0 : (((rd_T44 l0 x5_1).f0) == a1) = true := beq_iff_eq.mpr c7
              have c7b1 : (((rd_T44 l0 x5_1).f0) != a1) = false := bne_eq_false_iff_eq.mpr c7
              clear c7
              replace H := Option.bind_eq_some_iff.mp H
              obtain ⟨t329, A80, H⟩ := H
              replace H : (some (wrap64 (((rd_T44 l0 x5_1).f1) - t329))) = some r := H
              have A8 := Aside0.mk A80
              clear A80
              obtain rfl := Option.some.inj H
              go_wp2_with (first | (go_at_call 39; (with_reducible refine (epactref12_leaps.calls _ _ l0 t326 _ ?side1 ?side2 A3.out).mono ?_); (case side1 => repeat (first | exact HR0.out | (with_reducible refine Kd.C_alloc ?_ _) | (with_reducible refine Kd.C_drewN ?_ _) | (with_reducible refine Kd.C_drew ?_))); (case side2 => exact HC0.out); rintro e w' ⟨rfl, ⟨nd, rfl⟩⟩; (try first | exact ⟨rfl, _, World.drewN_drewN _ _ _⟩ | exact ⟨rfl, _, Eq.trans (World.drewN_drewN _ _ _) (congrArg (World.drewN _) (Nat.add_assoc _ _ _))⟩); have p327 : 0 ≤ (x5_1 : Int) := of_decide_eq_true (by first | (with_reducible assumption) | assumption); have q327 : x5_1 < (l0.length : Int) := of_decide_eq_true (by first | (with_reducible assumption) | assumption); obtain ⟨ad327, e327, hx327_0, hx327_1⟩ := at_T44 HR0.out x5_1 p327 q327; cases e327; replace p327 := eq_true p327; replace q327 := eq_true q327; have p328 : 0 ≤ (x5_1 : Int) := of_decide_eq_true (by first | (with_reducible assumption) | assumption); have q328 : x5_1 < (l0.length : Int) := of_decide_eq_true (by first | (with_reducible assumption) | assumption); obtain ⟨ad328, e328, hx328_0, hx328_1⟩ := at_T44 HR0.out x5_1 p328 q328; obtain rfl : ad327 = ad328 := (by injection e328); replace p328 := eq_true p328; replace q328 := eq_true q328) | (go_at_call 35; (with_reducible refine (epactref12_ahead.calls _ _ l0 x5_1 t329 _ ?side1 ?side2 A8.out).mono ?_); (case side1 => repeat (first | exact HR0.out | (with_reducible refine Kd.C_alloc ?_ _) | (with_reducible refine Kd.C_drewN ?_ _) | (with_reducible refine Kd.C_drew ?_))); (case side2 => exact HC0.out); rintro e w' ⟨rfl, ⟨nd, rfl⟩⟩; (try first | exact ⟨rfl, _, World.drewN_drewN _ _ _⟩ | exact ⟨rfl, _, Eq.trans (World.drewN_drewN _ _ _) (congrArg (World.drewN _) (Nat.add_assoc _ _ _))⟩)))
              repeat (go_quiet (first | (go_at_call 39; (with_reducible refine (epactref12_leaps.calls _ _ l0 t326 _ ?side1 ?side2 A3.out).mono ?_); (case side1 => repeat (first | exact HR0.out | (with_reducible refine Kd.C_alloc ?_ _) | (with_reducible refine Kd.C_drewN ?_ _) | (with_reducible refine Kd.C_drew ?_))); (case side2 => exact HC0.out); rintro e w' ⟨rfl, ⟨nd, rfl⟩⟩; (try first | exact ⟨rfl, _, World.drewN_drewN _ _ _⟩ | exact ⟨rfl, _, Eq.trans (World.drewN_drewN _ _ _) (congrArg (World.drewN _) (Nat.add_assoc _ _ _))⟩); have p327 : 0 ≤ (x5_1 : Int) := of_decide_eq_true (by first | (with_reducible assumption) | assumption); have q327 : x5_1 < (l0.length : Int) := of_decide_eq_true (by first | (with_reducible assumption) | assumption); obtain ⟨ad327, e327, hx327_0, hx327_1⟩ := at_T44 HR0.out x5_1 p327 q327; cases e327; replace p327 := eq_true p327; replace q327 := eq_true q327; have p328 : 0 ≤ (x5_1 : Int) := of_decide_eq_true (by first | (with_reducible assumption) | assumption); have q328 : x5_1 < (l0.length : Int) := of_decide_eq_true (by first | (with_reducible assumption) | assumption); obtain ⟨ad328, e328, hx328_0, hx328_1⟩ := at_T44 HR0.out x5_1 p328 q328; obtain rfl : ad327 = ad328 := (by injection e328); replace p328 := eq_true p328; replace q328 := eq_true q328) | (go_at_call 35; (with_reducible refine (epactref12_ahead.calls _ _ l0 x5_1 t329 _ ?side1 ?side2 A8.out).mono ?_); (case side1 => repeat (first | exact HR0.out | (with_reducible refine Kd.C_alloc ?_ _) | (with_reducible refine Kd.C_drewN ?_ _) | (with_reducible refine Kd.C_drew ?_))); (case side2 => exact HC0.out); rintro e w' ⟨rfl, ⟨nd, rfl⟩⟩; (try first | exact ⟨rfl, _, World.drewN_drewN _ _ _⟩ | exact ⟨rfl, _, Eq.trans (World.drewN_drewN _ _ _) (congrArg (World.drewN _) (Nat.add_assoc _ _ _))⟩))); try go_wp2_with (first | (go_at_call 39; (with_reducible refine (epactref12_leaps.calls _ _ l0 t326 _ ?side1 ?side2 A3.out).mono ?_); (case side1 => repeat (first | exact HR0.out | (with_reducible refine Kd.C_alloc ?_ _) | (with_reducible refine Kd.C_drewN ?_ _) | (with_reducible refine Kd.C_drew ?_))); (case side2 => exact HC0.out); rintro e w' ⟨rfl, ⟨nd, rfl⟩⟩; (try first | exact ⟨rfl, _, World.drewN_drewN _ _ _⟩ | exact ⟨rfl, _, Eq.trans (World.drewN_drewN _ _ _) (congrArg (World.drewN _) (Nat.add_assoc _ _ _))⟩); have p327 : 0 ≤ (x5_1 : Int) := of_decide_eq_true (by first | (with_reducible assumption) | assumption); have q327 : x5_1 < (l0.length : Int) := of_decide_eq_true (by first | (with_reducible assumption) | assumption); obtain ⟨ad327, e327, hx327_0, hx327_1⟩ := at_T44 HR0.out x5_1 p327 q327; cases e327; replace p327 := eq_true p327; replace q327 := eq_true q327; have p328 : 0 ≤ (x5_1 : Int) := of_decide_eq_true (by first | (with_reducible assumption) | assumption); have q328 : x5_1 < (l0.length : Int) := of_decide_eq_true (by first | (with_reducible assumption) | assumption); obtain ⟨ad328, e328, hx328_0, hx328_1⟩ := at_T44 HR0.out x5_1 p328 q328; obtain rfl : ad327 = ad328 := (by injection e328); replace p328 := eq_true p328; replace q328 := eq_true q328) | (go_at_call 35; (with_reducible refine (epactref12_ahead.calls _ _ l0 x5_1 t329 _ ?side1 ?side2 A8.out).mono ?_); (case side1 => repeat (first | exact HR0.out | (with_reducible refine Kd.C_alloc ?_ _) | (with_reducible refine Kd.C_drewN ?_ _) | (with_reducible refine Kd.C_drew ?_))); (case side2 => exact HC0.out); rintro e w' ⟨rfl, ⟨nd, rfl⟩⟩; (try first | exact ⟨rfl, _, World.drewN_drewN _ _ _⟩ | exact ⟨rfl, _, Eq.trans (World.drewN_drewN _ _ _) (congrArg (World.drewN _) (Nat.add_assoc _ _ _))⟩))))
              go_ret
              exact ⟨by first | rfl | (simp; done) | (simp [*]; done), by repeat (first | exact Drawn0.refl _ | apply Drawn0.step)⟩
            · rw [if_neg c7] at H
              have c7b0 : (((rd_T44 l0 x5_1).f0) == a1) = false := beq_eq_false_iff_ne.mpr c7
              have c7b1 : (((rd_T44 l0 x5_1).f0) != a1) = true := bne_iff_ne.mpr c7
              have H' := Aside0.mk H
              clear H
              go_wp2_with (first | (go_at_call 39; (with_reducible refine (epactref12_leaps.calls _ _ l0 t326 _ ?side1 ?side2 A3.out).mono ?_); (case side1 => repeat (first | exact HR0.out | (with_reducible refine Kd.C_alloc ?_ _) | (with_reducible refine Kd.C_drewN ?_ _) | (with_reducible refine Kd.C_drew ?_))); (case side2 => exact HC0.out); rintro e w' ⟨rfl, ⟨nd, rfl⟩⟩; (try first | exact ⟨rfl, _, World.drewN_drewN _ _ _⟩ | exact ⟨rfl, _, Eq.trans (World.drewN_drewN _ _ _) (congrArg (World.drewN _) (Nat.add_assoc _ _ _))⟩); have p327 : 0 ≤ (x5_1 : Int) := of_decide_eq_true (by first | (with_reducible assumption) | assumption); have q327 : x5_1 < (l0.length : Int) := of_decide_eq_true (by first | (with_reducible assumption) | assumption); obtain ⟨ad327, e327, hx327_0, hx327_1⟩ := at_T44 HR0.out x5_1 p327 q327; cases e327; replace p327 := eq_true p327; replace q327 := eq_true q327))
              repeat (go_quiet (first | (go_at_call 39; (with_reducible refine (epactref12_leaps.calls _ _ l0 t326 _ ?side1 ?side2 A3.out).mono ?_); (case side1 => repeat (first | exact HR0.out | (with_reducible refine Kd.C_alloc ?_ _) | (with_reducible refine Kd.C_drewN ?_ _) | (with_reducible refine Kd.C_drew ?_))); (case side2 => exact HC0.out); rintro e w' ⟨rfl, ⟨nd, rfl⟩⟩; (try first | exact ⟨rfl, _, World.drewN_drewN _ _ _⟩ | exact ⟨rfl, _, Eq.trans (World.drewN_drewN _ _ _) (congrArg (World.drewN _) (Nat.add_assoc _ _ _))⟩); have p327 : 0 ≤ (x5_1 : Int) := of_decide_eq_true (by first | (with_reducible assumption) | assumption); have q327 : x5_1 < (l0.length : Int) := of_decide_eq_true (by first | (with_reducible assumption) | assumption); obtain ⟨ad327, e327, hx327_0, hx327_1⟩ := at_T44 HR0.out x5_1 p327 q327; cases e327; replace p327 := eq_true p327; replace q327 := eq_true q327)); try go_wp2_with (first | (go_at_call 39; (with_reducible refine (epactref12_leaps.calls _ _ l0 t326 _ ?side1 ?side2 A3.out).mono ?_); (case side1 => repeat (first | exact HR0.out | (with_reducible refine Kd.C_alloc ?_ _) | (with_reducible refine Kd.C_drewN ?_ _) | (with_reducible refine Kd.C_drew ?_))); (case side2 => exact HC0.out); rintro e w' ⟨rfl, ⟨nd, rfl⟩⟩; (try first | exact ⟨rfl, _, World.drewN_drewN _ _ _⟩ | exact ⟨rfl, _, Eq.trans (World.drewN_drewN _ _ _) (congrArg (World.drewN _) (Nat.add_assoc _ _ _))⟩); have p327 : 0 ≤ (x5_1 : Int) := of_decide_eq_true (by first | (with_reducible assumption) | assumption); have q327 : x5_1 < (l0.length : Int) := of_decide_eq_true (by first | (with_reducible assumption) | assumption); obtain ⟨ad327, e327, hx327_0, hx327_1⟩ := at_T44 HR0.out x5_1 p327 q327; cases e327; replace p327 := eq_true p327; replace q327 := eq_true q327)))
              go_roundg k1
              case measure => have := HK1.out; omega
              case rel => exact ⟨(wrap64 (x5_1 + 1)), (by first | rfl | (simp; done) | (simp [*]; done)), H', ⟨by have := HK1.out; omega⟩, by repeat (first | exact Drawn0.refl _ | apply Drawn0.step)⟩
          · rw [if_neg c6] at H
            exact absurd H (by simp)
        · rw [if_neg c5] at H
          exact absurd H (by simp)
      · rw [if_neg c4] at H
        have c4b0 : decide (x5_1 < t326) = false := decide_eq_false c4
        clear c4
        obtain rfl := Option.some.inj H
        go_wp2_with (first | (go_at_call 39; (with_reducible refine (epactref12_leaps.calls _ _ l0 t326 _ ?side1 ?side2 A3.out).mono ?_); (case side1 => repeat (first | exact HR0.out | (with_reducible refine Kd.C_alloc ?_ _) | (with_reducible refine Kd.C_drewN ?_ _) | (with_reducible refine Kd.C_drew ?_))); (case side2 => exact HC0.out); rintro e w' ⟨rfl, ⟨nd, rfl⟩⟩; (try first | exact ⟨rfl, _, World.drewN_drewN _ _ _⟩ | exact ⟨rfl, _, Eq.trans (World.drewN_drewN _ _ _) (congrArg (World.drewN _) (Nat.add_assoc _ _ _))⟩)))
        repeat (go_quiet (first | (go_at_call 39; (with_reducible refine (epactref12_leaps.calls _ _ l0 t326 _ ?side1 ?side2 A3.out).mono ?_); (case side1 => repeat (first | exact HR0.out | (with_reducible refine Kd.C_alloc ?_ _) | (with_reducible refine Kd.C_drewN ?_ _) | (with_reducible refine Kd.C_drew ?_))); (case side2 => exact HC0.out); rintro e w' ⟨rfl, ⟨nd, rfl⟩⟩; (try first | exact ⟨rfl, _, World.drewN_drewN _ _ _⟩ | exact ⟨rfl, _, Eq.trans (World.drewN_drewN _ _ _) (congrArg (World.drewN _) (Nat.add_assoc _ _ _))⟩))); try go_wp2_with (first | (go_at_call 39; (with_reducible refine (epactref12_leaps.calls _ _ l0 t326 _ ?side1 ?side2 A3.out).mono ?_); (case side1 => repeat (first | exact HR0.out | (with_reducible refine Kd.C_alloc ?_ _) | (with_reducible refine Kd.C_drewN ?_ _) | (with_reducible refine Kd.C_drew ?_))); (case side2 => exact HC0.out); rintro e w' ⟨rfl, ⟨nd, rfl⟩⟩; (try first | exact ⟨rfl, _, World.drewN_drewN _ _ _⟩ | exact ⟨rfl, _, Eq.trans (World.drewN_drewN _ _ _) (congrArg (World.drewN _) (Nat.add_assoc _ _ _))⟩))))
        go_ret
        exact ⟨by first | rfl | (simp; done) | (simp [*]; done), by repeat (first | exact Drawn0.refl _ | apply Drawn0.step)⟩

end Go.Proofs.Ytmnkfafnfjpliaa.PAll
