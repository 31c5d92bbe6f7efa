-- Written for this claim by wip/tools of this repo (after the kit's print; own contracts laid in).
import Derived.Test.YthoigncoojcanaaPAllx0
import Derived.Test.YthoigncoojcanaaShort
import Derived.Test.YthoigncoojcanaaPAllx19
namespace Go.Proofs.Ythoigncoojcanaa.PAll
open Go.RowKit Go.Proofs.YthoigncoojcanaaW.PrintWords Go.Proofs.YthoigncoojcanaaW.PrintLast Go.Proofs.YthoigncoojcanaaW.PrintMore
attribute [local go_sem] max2_int min2_int max_two min_two max_three min_three max_four min_four   -- for this text's walks alone
set_option linter.unusedVariables false
set_option linter.unusedSimpArgs false

/-! ### epactref09_wrong: function 113 -/
mutual
def epactref09_wrong.j0 : Nat → Int → Bool → List (S49) → Bool → Int → Int → Int → Bool → Option (Int)
 | 0, _, _, _, _, _, _, _, _ => none
 | k + 1, x1, x20, x469000, x469001, x469002, x471000, x471001, x471002 => if x20 = true then (some 9) else ((epactref03_End.f k x471000).bind fun t471 => (if t471 = true then (if x471001 = 1 then (epactref09_wrong.j1 k x1 false x469000 x469001 x469002 x471000 x471001 x471002) else (epactref09_wrong.j1 k x1 (x471001 != (-1)) x469000 x469001 x469002 x471000 x471001 x471002)) else (some 5)))
def epactref09_wrong.j1 : Nat → Int → Bool → List (S49) → Bool → Int → Int → Int → Bool → Option (Int)
 | 0, _, _, _, _, _, _, _, _ => none
 | k + 1, x1, x32, x469000, x469001, x469002, x471000, x471001, x471002 => if x32 = true then (some 6) else (if x1 > 0 then (if 0 ≤ (wrap64 (x1 - 1)) then (if (wrap64 (x1 - 1)) < (x469000.length : Int) then (if x471000 ≤ ((rd_T49 x469000 (wrap64 (x1 - 1))).f0) then (some 4) else (some 0)) else (none)) else (none)) else (some 0))
end
def epactref09_wrong.f (k : Nat) (l0_0 : List (S49)) (a0_1 : Bool) (a0_2 : Int) (a1 : Int) : Option (Int) := if 0 ≤ a1 then (if a1 < (l0_0.length : Int) then (if a1 ≥ 200 then (some 8) else (if ((rd_T49 l0_0 a1).f0) < 730 then (epactref09_wrong.j0 k a1 true l0_0 a0_1 a0_2 ((rd_T49 l0_0 a1).f0) ((rd_T49 l0_0 a1).f1) ((rd_T49 l0_0 a1).f2)) else (epactref09_wrong.j0 k a1 (decide (((rd_T49 l0_0 a1).f0) ≥ 2932896)) l0_0 a0_1 a0_2 ((rd_T49 l0_0 a1).f0) ((rd_T49 l0_0 a1).f1) ((rd_T49 l0_0 a1).f2)))) else (none)) else (none)
theorem epactref09_wrong.mono_l : ∀ k, (∀ y0 y1 y2 y3 y4 y5 y6 y7, LeO (epactref09_wrong.j0 k y0 y1 y2 y3 y4 y5 y6 y7) (epactref09_wrong.j0 (k + 1) y0 y1 y2 y3 y4 y5 y6 y7)) ∧ (∀ y0 y1 y2 y3 y4 y5 y6 y7, LeO (epactref09_wrong.j1 k y0 y1 y2 y3 y4 y5 y6 y7) (epactref09_wrong.j1 (k + 1) y0 y1 y2 y3 y4 y5 y6 y7))
 | 0 => ⟨fun _ _ _ _ _ _ _ _ r h => by simp [epactref09_wrong.j0] at h, fun _ _ _ _ _ _ _ _ r h => by simp [epactref09_wrong.j1] at h⟩
 | k + 1 => by
  obtain ⟨ih0, ih1⟩ := epactref09_wrong.mono_l k
  refine ⟨?_, ?_⟩
  ·intro y0 y1 y2 y3 y4 y5 y6 y7
   unfold epactref09_wrong.j0
   repeat' first
   | (with_reducible exact ih0 _ _ _ _ _ _ _ _)
   | (with_reducible exact ih1 _ _ _ _ _ _ _ _)
   | (with_reducible exact epactref03_End.mono _ _)
   | (with_reducible exact LeO.refl _)
   | (with_reducible exact LeO.none _)
   | (with_reducible refine LeO.ite ?_ ?_)
   | (with_reducible refine LeO.bind ?_ (fun _ => ?_))
  ·intro y0 y1 y2 y3 y4 y5 y6 y7
   unfold epactref09_wrong.j1
   repeat' first
   | (with_reducible exact ih0 _ _ _ _ _ _ _ _)
   | (with_reducible exact ih1 _ _ _ _ _ _ _ _)
   | (with_reducible exact epactref03_End.mono _ _)
   | (with_reducible exact LeO.refl _)
   | (with_reducible exact LeO.none _)
   | (with_reducible refine LeO.ite ?_ ?_)
   | (with_reducible refine LeO.bind ?_ (fun _ => ?_))
theorem epactref09_wrong.mono : ∀ a0 a1 a2 a3 k, LeO (epactref09_wrong.f k a0 a1 a2 a3) (epactref09_wrong.f (k + 1) a0 a1 a2 a3) := by
 intro a0 a1 a2 a3 k
 obtain ⟨ih0, ih1⟩ := epactref09_wrong.mono_l k
 unfold epactref09_wrong.f
 repeat' first
   | (with_reducible exact ih0 _ _ _ _ _ _ _ _)
   | (with_reducible exact ih1 _ _ _ _ _ _ _ _)
   | (with_reducible exact epactref03_End.mono _ _)
   | (with_reducible exact LeO.refl _)
   | (with_reducible exact LeO.none _)
   | (with_reducible refine LeO.ite ?_ ?_)
   | (with_reducible refine LeO.bind ?_ (fun _ => ?_))
set_option maxHeartbeats 8000000 in
set_option maxRecDepth 100000 in
theorem epactref09_wrong.calls (k : Nat) (A0_0 : Option Addr) (c0_0 : Nat) (l0_0 : List (S49)) (a0_1 : Bool) (a0_2 : Int) (a1 : Int) (r : Int) (w : World) (hr0_0 : Kd.C k49 w A0_0 l0_0.length l0_0) (hc0_0 : l0_0.length ≤ c0_0) (h : epactref09_wrong.f k l0_0 a0_1 a0_2 a1 = some r) :
  Calls Try.prog 113 #[.agg #[.slice A0_0 l0_0.length c0_0, .bool a0_1, .int .i64 a0_2], .int .i64 a1] w fun e w' => e = .returned (.int .i64 r) ∧ Below w.heap.size w w' := by
 have hu44 := Try.underlying44
 have hu49 := Try.underlying49
 have HR0_0 := Aside0.mk hr0_0
 have HC0_0 := Aside0.mk hc0_0
 clear hr0_0 hc0_0
 have HB := Aside0.mk (Below.refl w.heap.size w)
 have H : (if 0 ≤ a1 then (if a1 < (l0_0.length : Int) then (if a1 ≥ 200 then (some 8) else (if ((rd_T49 l0_0 a1).f0) < 730 then (epactref09_wrong.j0 k a1 true l0_0 a0_1 a0_2 ((rd_T49 l0_0 a1).f0) ((rd_T49 l0_0 a1).f1) ((rd_T49 l0_0 a1).f2)) else (epactref09_wrong.j0 k a1 (decide (((rd_T49 l0_0 a1).f0) ≥ 2932896)) l0_0 a0_1 a0_2 ((rd_T49 l0_0 a1).f0) ((rd_T49 l0_0 a1).f1) ((rd_T49 l0_0 a1).f2)))) else (none)) else (none)) = some r := h
 clear h
 by_cases c3 : 0 ≤ a1
 ·rw [if_pos c3] at H
  have c3b0 : decide (0 ≤ a1) = true := decide_eq_true c3
  clear c3
  by_cases c4 : a1 < (l0_0.length : Int)
  ·rw [if_pos c4] at H
   have c4b0 : decide (a1 < (l0_0.length : Int)) = true := decide_eq_true c4
   clear c4
   by_cases c5 : a1 ≥ 200
   ·rw [if_pos c5] at H
    have c5b0 : decide (200 ≤ a1) = true := decide_eq_true c5
    clear c5
    obtain rfl := Option.some.inj H
    go_enter Try.func113, Try.ntmps113
    go_wp2_with (first | (refine bx 2 #[.slice A0_0 l0_0.length c0_0, .bool a0_1, .int .i64 a0_2] 44 ?_; intro gb468 hg w6 hbox hb; have n1_ := Aside0.mk (hbox); have GW468 := gw HB hg; have GE468 := gw HB hg; replace HB := bs HB hb; have BK468 := n1_; clear n1_; clear hb hbox hg; have hcz7_0 := bc BK468 0; have hcz7_1 := bc BK468 1; have hcz7_2 := bc BK468 2; have hfz7_0 := bf BK468 0; have hfz7_1 := bf BK468 1; have hfz7_2 := bf BK468 2; have p469 : 0 ≤ (a1 : Int) := pa; have q469 : a1 < (l0_0.length : Int) := pa; obtain ⟨ad469, e469, hx469_0, hx469_1, hx469_2⟩ := at_T49 HR0_0.out a1 p469 q469; cases e469; replace hx469_0 := hx HB hx469_0; replace hx469_1 := hx HB hx469_1; replace hx469_2 := hx HB hx469_2; replace p469 := eq_true p469; replace q469 := eq_true q469) | (refine bx 5 #[.int .i64 0, .int .i64 0, .bool false] 49 ?_; intro gb470 hg w8 hbox hb; have n2_ := Aside0.mk (hbox); have GW470 := gw HB hg; have GE470 := gw HB hg; have NB468_470 := nl BK468 hg; have NB470_468 := nr BK468 hg; replace BK468 := kb BK468 hb; replace HB := bs HB hb; have BK470 := n2_; clear n2_; clear hb hbox hg; have hnb9 := NB470_468.out; have hnc9 := NB468_470.out; have hcz10_0 := bc BK470 0; have hcz10_1 := bc BK470 1; have hcz10_2 := bc BK470 2; have hfz10_0 := bf BK470 0; have hfz10_1 := bf BK470 1; have hfz10_2 := bf BK470 2))
    repeat (go_quiet (first | (refine bx 2 #[.slice A0_0 l0_0.length c0_0, .bool a0_1, .int .i64 a0_2] 44 ?_; intro gb468 hg w6 hbox hb; have n1_ := Aside0.mk (hbox); have GW468 := gw HB hg; have GE468 := gw HB hg; replace HB := bs HB hb; have BK468 := n1_; clear n1_; clear hb hbox hg; have hcz7_0 := bc BK468 0; have hcz7_1 := bc BK468 1; have hcz7_2 := bc BK468 2; have hfz7_0 := bf BK468 0; have hfz7_1 := bf BK468 1; have hfz7_2 := bf BK468 2; have p469 : 0 ≤ (a1 : Int) := pa; have q469 : a1 < (l0_0.length : Int) := pa; obtain ⟨ad469, e469, hx469_0, hx469_1, hx469_2⟩ := at_T49 HR0_0.out a1 p469 q469; cases e469; replace hx469_0 := hx HB hx469_0; replace hx469_1 := hx HB hx469_1; replace hx469_2 := hx HB hx469_2; replace p469 := eq_true p469; replace q469 := eq_true q469) | (refine bx 5 #[.int .i64 0, .int .i64 0, .bool false] 49 ?_; intro gb470 hg w8 hbox hb; have n2_ := Aside0.mk (hbox); have GW470 := gw HB hg; have GE470 := gw HB hg; have NB468_470 := nl BK468 hg; have NB470_468 := nr BK468 hg; replace BK468 := kb BK468 hb; replace HB := bs HB hb; have BK470 := n2_; clear n2_; clear hb hbox hg; have hnb9 := NB470_468.out; have hnc9 := NB468_470.out; have hcz10_0 := bc BK470 0; have hcz10_1 := bc BK470 1; have hcz10_2 := bc BK470 2; have hfz10_0 := bf BK470 0; have hfz10_1 := bf BK470 1; have hfz10_2 := bf BK470 2)); try go_wp2_with (first | (refine bx 2 #[.slice A0_0 l0_0.length c0_0, .bool a0_1, .int .i64 a0_2] 44 ?_; intro gb468 hg w6 hbox hb; have n1_ := Aside0.mk (hbox); have GW468 := gw HB hg; have GE468 := gw HB hg; replace HB := bs HB hb; have BK468 := n1_; clear n1_; clear hb hbox hg; have hcz7_0 := bc BK468 0; have hcz7_1 := bc BK468 1; have hcz7_2 := bc BK468 2; have hfz7_0 := bf BK468 0; have hfz7_1 := bf BK468 1; have hfz7_2 := bf BK468 2; have p469 : 0 ≤ (a1 : Int) := pa; have q469 : a1 < (l0_0.length : Int) := pa; obtain ⟨ad469, e469, hx469_0, hx469_1, hx469_2⟩ := at_T49 HR0_0.out a1 p469 q469; cases e469; replace hx469_0 := hx HB hx469_0; replace hx469_1 := hx HB hx469_1; replace hx469_2 := hx HB hx469_2; replace p469 := eq_true p469; replace q469 := eq_true q469) | (refine bx 5 #[.int .i64 0, .int .i64 0, .bool false] 49 ?_; intro gb470 hg w8 hbox hb; have n2_ := Aside0.mk (hbox); have GW470 := gw HB hg; have GE470 := gw HB hg; have NB468_470 := nl BK468 hg; have NB470_468 := nr BK468 hg; replace BK468 := kb BK468 hb; replace HB := bs HB hb; have BK470 := n2_; clear n2_; clear hb hbox hg; have hnb9 := NB470_468.out; have hnc9 := NB468_470.out; have hcz10_0 := bc BK470 0; have hcz10_1 := bc BK470 1; have hcz10_2 := bc BK470 2; have hfz10_0 := bf BK470 0; have hfz10_1 := bf BK470 1; have hfz10_2 := bf BK470 2)))
    go_ret
    exact fi HB
   ·rw [if_neg c5] at H
    have c5b0 : decide (200 ≤ a1) = false := decide_eq_false c5
    clear c5
    have HC11 := Aside0.mk H
    clear H
    go_enter Try.func113, Try.ntmps113
    go_upto_region 4 with (first | (refine bx 2 #[.slice A0_0 l0_0.length c0_0, .bool a0_1, .int .i64 a0_2] 44 ?_; intro gb468 hg w12 hbox hb; have n1_ := Aside0.mk (hbox); have GW468 := gw HB hg; have GE468 := gw HB hg; replace HB := bs HB hb; have BK468 := n1_; clear n1_; clear hb hbox hg; have hcz13_0 := bc BK468 0; have hcz13_1 := bc BK468 1; have hcz13_2 := bc BK468 2; have hfz13_0 := bf BK468 0; have hfz13_1 := bf BK468 1; have hfz13_2 := bf BK468 2; have p469 : 0 ≤ (a1 : Int) := pa; have q469 : a1 < (l0_0.length : Int) := pa; obtain ⟨ad469, e469, hx469_0, hx469_1, hx469_2⟩ := at_T49 HR0_0.out a1 p469 q469; cases e469; replace hx469_0 := hx HB hx469_0; replace hx469_1 := hx HB hx469_1; replace hx469_2 := hx HB hx469_2; replace p469 := eq_true p469; replace q469 := eq_true q469) | (refine bx 5 #[.int .i64 0, .int .i64 0, .bool false] 49 ?_; intro gb470 hg w14 hbox hb; have n2_ := Aside0.mk (hbox); have GW470 := gw HB hg; have GE470 := gw HB hg; have NB468_470 := nl BK468 hg; have NB470_468 := nr BK468 hg; replace BK468 := kb BK468 hb; replace HB := bs HB hb; have BK470 := n2_; clear n2_; clear hb hbox hg; have hnb15 := NB470_468.out; have hnc15 := NB468_470.out; have hcz16_0 := bc BK470 0; have hcz16_1 := bc BK470 1; have hcz16_2 := bc BK470 2; have hfz16_0 := bf BK470 0; have hfz16_1 := bf BK470 1; have hfz16_2 := bf BK470 2))
    repeat (go_quiet (first | (refine bx 2 #[.slice A0_0 l0_0.length c0_0, .bool a0_1, .int .i64 a0_2] 44 ?_; intro gb468 hg w12 hbox hb; have n1_ := Aside0.mk (hbox); have GW468 := gw HB hg; have GE468 := gw HB hg; replace HB := bs HB hb; have BK468 := n1_; clear n1_; clear hb hbox hg; have hcz13_0 := bc BK468 0; have hcz13_1 := bc BK468 1; have hcz13_2 := bc BK468 2; have hfz13_0 := bf BK468 0; have hfz13_1 := bf BK468 1; have hfz13_2 := bf BK468 2; have p469 : 0 ≤ (a1 : Int) := pa; have q469 : a1 < (l0_0.length : Int) := pa; obtain ⟨ad469, e469, hx469_0, hx469_1, hx469_2⟩ := at_T49 HR0_0.out a1 p469 q469; cases e469; replace hx469_0 := hx HB hx469_0; replace hx469_1 := hx HB hx469_1; replace hx469_2 := hx HB hx469_2; replace p469 := eq_true p469; replace q469 := eq_true q469) | (refine bx 5 #[.int .i64 0, .int .i64 0, .bool false] 49 ?_; intro gb470 hg w14 hbox hb; have n2_ := Aside0.mk (hbox); have GW470 := gw HB hg; have GE470 := gw HB hg; have NB468_470 := nl BK468 hg; have NB470_468 := nr BK468 hg; replace BK468 := kb BK468 hb; replace HB := bs HB hb; have BK470 := n2_; clear n2_; clear hb hbox hg; have hnb15 := NB470_468.out; have hnc15 := NB468_470.out; have hcz16_0 := bc BK470 0; have hcz16_1 := bc BK470 1; have hcz16_2 := bc BK470 2; have hfz16_0 := bf BK470 0; have hfz16_1 := bf BK470 1; have hfz16_2 := bf BK470 2)); go_upto_region 4 with (first | (refine bx 2 #[.slice A0_0 l0_0.length c0_0, .bool a0_1, .int .i64 a0_2] 44 ?_; intro gb468 hg w12 hbox hb; have n1_ := Aside0.mk (hbox); have GW468 := gw HB hg; have GE468 := gw HB hg; replace HB := bs HB hb; have BK468 := n1_; clear n1_; clear hb hbox hg; have hcz13_0 := bc BK468 0; have hcz13_1 := bc BK468 1; have hcz13_2 := bc BK468 2; have hfz13_0 := bf BK468 0; have hfz13_1 := bf BK468 1; have hfz13_2 := bf BK468 2; have p469 : 0 ≤ (a1 : Int) := pa; have q469 : a1 < (l0_0.length : Int) := pa; obtain ⟨ad469, e469, hx469_0, hx469_1, hx469_2⟩ := at_T49 HR0_0.out a1 p469 q469; cases e469; replace hx469_0 := hx HB hx469_0; replace hx469_1 := hx HB hx469_1; replace hx469_2 := hx HB hx469_2; replace p469 := eq_true p469; replace q469 := eq_true q469) | (refine bx 5 #[.int .i64 0, .int .i64 0, .bool false] 49 ?_; intro gb470 hg w14 hbox hb; have n2_ := Aside0.mk (hbox); have GW470 := gw HB hg; have GE470 := gw HB hg; have NB468_470 := nl BK468 hg; have NB470_468 := nr BK468 hg; replace BK468 := kb BK468 hb; replace HB := bs HB hb; have BK470 := n2_; clear n2_; clear hb hbox hg; have hnb15 := NB470_468.out; have hnc15 := NB468_470.out; have hcz16_0 := bc BK470 0; have hcz16_1 := bc BK470 1; have hcz16_2 := bc BK470 2; have hfz16_0 := bf BK470 0; have hfz16_1 := bf BK470 1; have hfz16_2 := bf BK470 2)))
    (try simp only [Act.put, List.setIfInBounds_toArray, List.set_cons_zero, List.set_cons_succ])
    go_cut [20] (fun v20 wc => ∃ (kq : Nat) (x20_10 : Bool), v20 = .bool x20_10 ∧ Aside0 (epactref09_wrong.j0 kq a1 x20_10 l0_0 a0_1 a0_2 ((rd_T49 l0_0 a1).f0) ((rd_T49 l0_0 a1).f1) ((rd_T49 l0_0 a1).f2) = some r) ∧ Aside0 (kq ≤ k) ∧ Aside0 (wc.heap[gb468]? = some (.cells #[(.slice (some ad469) l0_0.length c0_0), .bool a0_1, .int .i64 a0_2] 44 (0, 0))) ∧ Aside0 (wc.heap[gb470]? = some (.cells #[.int .i64 ((rd_T49 l0_0 a1).f0), .int .i64 ((rd_T49 l0_0 a1).f1), .bool ((rd_T49 l0_0 a1).f2)] 49 (0, 0))) ∧ Aside0 (Below w.heap.size w wc))
    case first =>
     have H := HC11.out
     clear HC11
     by_cases c17 : ((rd_T49 l0_0 a1).f0) < 730
     ·rw [if_pos c17] at H
      have c17b0 : decide (((rd_T49 l0_0 a1).f0) < 730) = true := decide_eq_true c17
      clear c17
      (first | rw [c17b0] | (simp only [i64_w, i32_w]; rw [c17b0]) | skip)
      have H' := Aside0.mk H
      clear H
      have hnb18 := NB470_468.out
      have hnc18 := NB468_470.out
      have hcz19_0 := bc BK470 0
      have hcz19_1 := bc BK470 1
      have hcz19_2 := bc BK470 2
      have hfz19_0 := bf BK470 0
      have hfz19_1 := bf BK470 1
      have hfz19_2 := bf BK470 2
      go_wp2
      repeat (go_quiet (fail); try go_wp2)
      go_meet
      case rel => exact ⟨_, (true), pr, H', om, kg BK468, ⟨by (with_reducible repeat (first | refine blk_drewN ?_ _ | refine blk_drew ?_ | refine blk_alloc ?_ _)); refine blk_put (cs := #[.int .i64 ((rd_T49 l0_0 a1).f0), .int .i64 ((rd_T49 l0_0 a1).f1), .bool false]) ?_ 2 _ rfl; (with_reducible repeat (first | refine blk_drewN ?_ _ | refine blk_drew ?_ | refine blk_alloc ?_ _)); refine blk_put (cs := #[.int .i64 ((rd_T49 l0_0 a1).f0), .int .i64 0, .bool false]) ?_ 1 _ rfl; (with_reducible repeat (first | refine blk_drewN ?_ _ | refine blk_drew ?_ | refine blk_alloc ?_ _)); refine blk_put (cs := #[.int .i64 0, .int .i64 0, .bool false]) ?_ 0 _ rfl; (with_reducible repeat (first | refine blk_drewN ?_ _ | refine blk_drew ?_ | refine blk_alloc ?_ _)); exact BK470.out⟩, ba HB⟩
     ·rw [if_neg c17] at H
      have c17b0 : decide (((rd_T49 l0_0 a1).f0) < 730) = false := decide_eq_false c17
      clear c17
      (first | rw [c17b0] | (simp only [i64_w, i32_w]; rw [c17b0]) | skip)
      have H' := Aside0.mk H
      clear H
      have hnb20 := NB470_468.out
      have hnc20 := NB468_470.out
      have hcz21_0 := bc BK470 0
      have hcz21_1 := bc BK470 1
      have hcz21_2 := bc BK470 2
      have hfz21_0 := bf BK470 0
      have hfz21_1 := bf BK470 1
      have hfz21_2 := bf BK470 2
      go_wp2
      repeat (go_quiet (fail); try go_wp2)
      go_meet
      case rel => exact ⟨_, (decide (((rd_T49 l0_0 a1).f0) ≥ 2932896)), pr, H', om, kg BK468, ⟨by (with_reducible repeat (first | refine blk_drewN ?_ _ | refine blk_drew ?_ | refine blk_alloc ?_ _)); refine blk_put (cs := #[.int .i64 ((rd_T49 l0_0 a1).f0), .int .i64 ((rd_T49 l0_0 a1).f1), .bool false]) ?_ 2 _ rfl; (with_reducible repeat (first | refine blk_drewN ?_ _ | refine blk_drew ?_ | refine blk_alloc ?_ _)); refine blk_put (cs := #[.int .i64 ((rd_T49 l0_0 a1).f0), .int .i64 0, .bool false]) ?_ 1 _ rfl; (with_reducible repeat (first | refine blk_drewN ?_ _ | refine blk_drew ?_ | refine blk_alloc ?_ _)); refine blk_put (cs := #[.int .i64 0, .int .i64 0, .bool false]) ?_ 0 _ rfl; (with_reducible repeat (first | refine blk_drewN ?_ _ | refine blk_drew ?_ | refine blk_alloc ?_ _)); exact BK470.out⟩, ba HB⟩
    case rest =>
     clear HC11
     try clear c1
     try clear c2
     try clear p2
     try clear c3
     try clear c3b0
     try clear c4
     try clear c4b0
     try clear p4
     try clear q4
     try clear hx4
     try clear c5
     try clear c5b0
     try clear c9
     try clear c11
     try clear c15
     try clear c17
     try clear c17b0
     try clear c18
     try clear c20
     try clear hcz10_0
     try clear hcz10_1
     try clear hcz10_2
     try clear hcz13_0
     try clear hcz13_1
     try clear hcz13_2
     try clear hcz16_0
     try clear hcz16_1
     try clear hcz16_2
     try clear hcz19_0
     try clear hcz19_1
     try clear hcz19_2
     try clear hcz21_0
     try clear hcz21_1
     try clear hcz21_2
     try clear hcz7_0
     try clear hcz7_1
     try clear hcz7_2
     try clear hfz10_0
     try clear hfz10_1
     try clear hfz10_2
     try clear hfz13_0
     try clear hfz13_1
     try clear hfz13_2
     try clear hfz16_0
     try clear hfz16_1
     try clear hfz16_2
     try clear hfz19_0
     try clear hfz19_1
     try clear hfz19_2
     try clear hfz21_0
     try clear hfz21_1
     try clear hfz21_2
     try clear hfz7_0
     try clear hfz7_1
     try clear hfz7_2
     try clear hx469_0
     try clear hx469_1
     try clear hx469_2
     try clear p469
     try clear q469
     obtain ⟨kq, x20_10, rfl, HA, HJ10, BK468, BK470, HB⟩ := hcut
     cases kq with
     | zero => exact absurd HA.out (by simp [epactref09_wrong.j0])
     | succ kj10 =>
      have H := HA.out
      clear HA
      simp only [epactref09_wrong.j0] at H
      by_cases c22 : x20_10 = true
      ·subst c22
       rw [if_pos rfl] at H
       obtain rfl := Option.some.inj H
       go_wp2
       repeat (go_quiet (fail); try go_wp2)
       go_ret
       exact fi HB
      ·replace c22 := Bool.eq_false_iff.mpr c22
       subst c22
       rw [if_neg (show ¬ (false = true) by decide)] at H
       obtain ⟨t471, A23, H⟩ := bnd H
       try dsimp only at H
       by_cases c24 : t471 = true
       ·subst c24
        rw [if_pos rfl] at H
        have HC25 := Aside0.mk H
        clear H
        have hnb26 := NB470_468.out
        have hnc26 := NB468_470.out
        have hcz27_0 := bc BK470 0
        have hcz27_1 := bc BK470 1
        have hcz27_2 := bc BK470 2
        have hfz27_0 := bf BK470 0
        have hfz27_1 := bf BK470 1
        have hfz27_2 := bf BK470 2
        go_upto_region 8 with (first | (go_at_call 116; (with_reducible refine (epactref03_End.calls kj10 ((rd_T49 l0_0 a1).f0) true _ A23.out).mono ?_); rintro e w28 ⟨rfl, hb⟩; replace BK468 := kb BK468 hb; replace BK470 := kb BK470 hb; replace HB := bs HB hb; (try clear hb)))
        repeat (go_quiet (first | (go_at_call 116; (with_reducible refine (epactref03_End.calls kj10 ((rd_T49 l0_0 a1).f0) true _ A23.out).mono ?_); rintro e w28 ⟨rfl, hb⟩; replace BK468 := kb BK468 hb; replace BK470 := kb BK470 hb; replace HB := bs HB hb; (try clear hb))); go_upto_region 8 with (first | (go_at_call 116; (with_reducible refine (epactref03_End.calls kj10 ((rd_T49 l0_0 a1).f0) true _ A23.out).mono ?_); rintro e w28 ⟨rfl, hb⟩; replace BK468 := kb BK468 hb; replace BK470 := kb BK470 hb; replace HB := bs HB hb; (try clear hb))))
        (try simp only [Act.put, List.setIfInBounds_toArray, List.set_cons_zero, List.set_cons_succ])
        go_cut [32] (fun v32 wc => ∃ (kq : Nat) (x32_24 : Bool), v32 = .bool x32_24 ∧ Aside0 (epactref09_wrong.j1 kq a1 x32_24 l0_0 a0_1 a0_2 ((rd_T49 l0_0 a1).f0) ((rd_T49 l0_0 a1).f1) ((rd_T49 l0_0 a1).f2) = some r) ∧ Aside0 (kq ≤ kj10) ∧ Aside0 (wc.heap[gb468]? = some (.cells #[(.slice (some ad469) l0_0.length c0_0), .bool a0_1, .int .i64 a0_2] 44 (0, 0))) ∧ Aside0 (wc.heap[gb470]? = some (.cells #[.int .i64 ((rd_T49 l0_0 a1).f0), .int .i64 ((rd_T49 l0_0 a1).f1), .bool ((rd_T49 l0_0 a1).f2)] 49 (0, 0))) ∧ Aside0 (Below w.heap.size w wc))
        case first =>
         have H := HC25.out
         clear HC25
         by_cases c29 : ((rd_T49 l0_0 a1).f1) = 1
         ·rw [if_pos c29] at H
          have c29b0 : (((rd_T49 l0_0 a1).f1) == 1) = true := beq_iff_eq.mpr c29
          have c29b1 : (((rd_T49 l0_0 a1).f1) != 1) = false := bne_eq_false_iff_eq.mpr c29
          clear c29
          (first | rw [c29b0] | (simp only [i64_w, i32_w]; rw [c29b0]) | skip)
          have H' := Aside0.mk H
          clear H
          have hnb30 := NB470_468.out
          have hnc30 := NB468_470.out
          have hcz31_0 := bc BK470 0
          have hcz31_1 := bc BK470 1
          have hcz31_2 := bc BK470 2
          have hfz31_0 := bf BK470 0
          have hfz31_1 := bf BK470 1
          have hfz31_2 := bf BK470 2
          go_wp2
          repeat (go_quiet (fail); try go_wp2)
          go_meet
          case rel => exact ⟨_, (false), pr, H', ⟨by have := HJ10.out; first | omega | exact Nat.le_refl _⟩, ka BK468, ka BK470, ba HB⟩
         ·rw [if_neg c29] at H
          have c29b0 : (((rd_T49 l0_0 a1).f1) == 1) = false := beq_eq_false_iff_ne.mpr c29
          have c29b1 : (((rd_T49 l0_0 a1).f1) != 1) = true := bne_iff_ne.mpr c29
          (first | rw [c29b0] | (simp only [i64_w, i32_w]; rw [c29b0]) | skip)
          have H' := Aside0.mk H
          clear H
          have hnb32 := NB470_468.out
          have hnc32 := NB468_470.out
          have hcz33_0 := bc BK470 0
          have hcz33_1 := bc BK470 1
          have hcz33_2 := bc BK470 2
          have hfz33_0 := bf BK470 0
          have hfz33_1 := bf BK470 1
          have hfz33_2 := bf BK470 2
          go_wp2
          repeat (go_quiet (fail); try go_wp2)
          go_meet
          case rel => exact ⟨_, ((((rd_T49 l0_0 a1).f1) != (-1))), pr, H', ⟨by have := HJ10.out; first | omega | exact Nat.le_refl _⟩, ka BK468, ka BK470, ba HB⟩
        case rest =>
         clear HC25
         try clear c1
         try clear c2
         try clear p2
         try clear c3
         try clear c3b0
         try clear c4
         try clear c4b0
         try clear p4
         try clear q4
         try clear hx4
         try clear c5
         try clear c5b0
         try clear c9
         try clear c11
         try clear c15
         try clear c17
         try clear c17b0
         try clear c18
         try clear c20
         try clear c22
         try clear c24
         try clear c26
         try clear c29
         try clear c29b0
         try clear c29b1
         try clear c30
         try clear c32
         try clear hcz10_0
         try clear hcz10_1
         try clear hcz10_2
         try clear hcz13_0
         try clear hcz13_1
         try clear hcz13_2
         try clear hcz16_0
         try clear hcz16_1
         try clear hcz16_2
         try clear hcz19_0
         try clear hcz19_1
         try clear hcz19_2
         try clear hcz21_0
         try clear hcz21_1
         try clear hcz21_2
         try clear hcz27_0
         try clear hcz27_1
         try clear hcz27_2
         try clear hcz31_0
         try clear hcz31_1
         try clear hcz31_2
         try clear hcz33_0
         try clear hcz33_1
         try clear hcz33_2
         try clear hcz7_0
         try clear hcz7_1
         try clear hcz7_2
         try clear hfz10_0
         try clear hfz10_1
         try clear hfz10_2
         try clear hfz13_0
         try clear hfz13_1
         try clear hfz13_2
         try clear hfz16_0
         try clear hfz16_1
         try clear hfz16_2
         try clear hfz19_0
         try clear hfz19_1
         try clear hfz19_2
         try clear hfz21_0
         try clear hfz21_1
         try clear hfz21_2
         try clear hfz27_0
         try clear hfz27_1
         try clear hfz27_2
         try clear hfz31_0
         try clear hfz31_1
         try clear hfz31_2
         try clear hfz33_0
         try clear hfz33_1
         try clear hfz33_2
         try clear hfz7_0
         try clear hfz7_1
         try clear hfz7_2
         try clear hx469_0
         try clear hx469_1
         try clear hx469_2
         try clear p2
         try clear p4
         try clear p469
         try clear q4
         try clear q469
         obtain ⟨kq, x32_24, rfl, HA, HJ24, BK468, BK470, HB⟩ := hcut
         cases kq with
         | zero => exact absurd HA.out (by simp [epactref09_wrong.j1])
         | succ kj24 =>
          have H := HA.out
          clear HA
          simp only [epactref09_wrong.j1] at H
          by_cases c34 : x32_24 = true
          ·subst c34
           rw [if_pos rfl] at H
           obtain rfl := Option.some.inj H
           go_wp2
           repeat (go_quiet (fail); try go_wp2)
           go_ret
           exact fi HB
          ·replace c34 := Bool.eq_false_iff.mpr c34
           subst c34
           rw [if_neg (show ¬ (false = true) by decide)] at H
           by_cases c35 : a1 > 0
           ·rw [if_pos c35] at H
            have c35b0 : decide (0 < a1) = true := decide_eq_true c35
            clear c35
            obtain ⟨ji36, hji36⟩ : ∃ j_ : Int, (wrap64 (a1 - 1)) = j_ := ⟨_, rfl⟩
            replace H : (if 0 ≤ (ji36) then (if (ji36) < (l0_0.length : Int) then (if ((rd_T49 l0_0 a1).f0) ≤ ((rd_T49 l0_0 (ji36)).f0) then (some 4) else (some 0)) else (none)) else (none)) = some r := by first | (rw [hji36] at H; exact H) | (simp only [hji36] at H ⊢; exact H)
            have hji36w : (IntKind.i64.wrap (a1 - 1)) = ji36 := (i64_w _).trans hji36
            by_cases c37 : 0 ≤ (ji36)
            ·rw [if_pos c37] at H
             have c37b0 : decide (0 ≤ (ji36)) = true := decide_eq_true c37
             clear c37
             by_cases c38 : (ji36) < (l0_0.length : Int)
             ·rw [if_pos c38] at H
              have c38b0 : decide ((ji36) < (l0_0.length : Int)) = true := decide_eq_true c38
              clear c38
              by_cases c39 : ((rd_T49 l0_0 a1).f0) ≤ ((rd_T49 l0_0 (ji36)).f0)
              ·rw [if_pos c39] at H
               have c39b0 : decide (((rd_T49 l0_0 a1).f0) ≤ ((rd_T49 l0_0 (ji36)).f0)) = true := decide_eq_true c39
               clear c39
               obtain rfl := Option.some.inj H
               have hnb40 := NB470_468.out
               have hnc40 := NB468_470.out
               have hcz41_0 := bc BK470 0
               have hcz41_1 := bc BK470 1
               have hcz41_2 := bc BK470 2
               have hfz41_0 := bf BK470 0
               have hfz41_1 := bf BK470 1
               have hfz41_2 := bf BK470 2
               have hcz42_0 := bc BK468 0
               have hcz42_1 := bc BK468 1
               have hcz42_2 := bc BK468 2
               have hfz42_0 := bf BK468 0
               have hfz42_1 := bf BK468 1
               have hfz42_2 := bf BK468 2
               have p472 : 0 ≤ ((ji36) : Int) := pa
               have q472 : (ji36) < (l0_0.length : Int) := pa
               obtain ⟨ad472, e472, hx472_0, hx472_1, hx472_2⟩ := at_T49 HR0_0.out (ji36) p472 q472
               obtain rfl : ad469 = ad472 := (by injection e472)
               replace hx472_0 := hx HB hx472_0
               replace hx472_1 := hx HB hx472_1
               replace hx472_2 := hx HB hx472_2
               replace p472 := eq_true p472
               replace q472 := eq_true q472
               go_wp2
               repeat (go_quiet (fail); try go_wp2)
               go_ret
               exact ⟨by first | rfl | (simp [errW_none, errW_some] <;> rfl) | (simp only [← hji36]; first | rfl | (simp [errW_none, errW_some] <;> rfl)) | (simp [*, errW_none, errW_some] <;> rfl), by repeat (first | (with_reducible first | exact HB.out | apply below_alloc | apply pw_below_drewN | apply below_drew1 | refine below_set ?_ GE468.out | refine below_set ?_ GE470.out) | exact HB.out)⟩
              ·rw [if_neg c39] at H
               have c39b0 : decide (((rd_T49 l0_0 a1).f0) ≤ ((rd_T49 l0_0 (ji36)).f0)) = false := decide_eq_false c39
               clear c39
               obtain rfl := Option.some.inj H
               have hnb43 := NB470_468.out
               have hnc43 := NB468_470.out
               have hcz44_0 := bc BK470 0
               have hcz44_1 := bc BK470 1
               have hcz44_2 := bc BK470 2
               have hfz44_0 := bf BK470 0
               have hfz44_1 := bf BK470 1
               have hfz44_2 := bf BK470 2
               have hcz45_0 := bc BK468 0
               have hcz45_1 := bc BK468 1
               have hcz45_2 := bc BK468 2
               have hfz45_0 := bf BK468 0
               have hfz45_1 := bf BK468 1
               have hfz45_2 := bf BK468 2
               have p472 : 0 ≤ ((ji36) : Int) := pa
               have q472 : (ji36) < (l0_0.length : Int) := pa
               obtain ⟨ad472, e472, hx472_0, hx472_1, hx472_2⟩ := at_T49 HR0_0.out (ji36) p472 q472
               obtain rfl : ad469 = ad472 := (by injection e472)
               replace hx472_0 := hx HB hx472_0
               replace hx472_1 := hx HB hx472_1
               replace hx472_2 := hx HB hx472_2
               replace p472 := eq_true p472
               replace q472 := eq_true q472
               go_wp2
               repeat (go_quiet (fail); try go_wp2)
               go_ret
               exact ⟨by first | rfl | (simp [errW_none, errW_some] <;> rfl) | (simp only [← hji36]; first | rfl | (simp [errW_none, errW_some] <;> rfl)) | (simp [*, errW_none, errW_some] <;> rfl), by repeat (first | (with_reducible first | exact HB.out | apply below_alloc | apply pw_below_drewN | apply below_drew1 | refine below_set ?_ GE468.out | refine below_set ?_ GE470.out) | exact HB.out)⟩
             ·rw [if_neg c38] at H
              exact absurd H (by simp)
            ·rw [if_neg c37] at H
             exact absurd H (by simp)
           ·rw [if_neg c35] at H
            have c35b0 : decide (0 < a1) = false := decide_eq_false c35
            clear c35
            obtain rfl := Option.some.inj H
            go_wp2
            repeat (go_quiet (fail); try go_wp2)
            go_ret
            exact fi HB
       ·replace c24 := Bool.eq_false_iff.mpr c24
        subst c24
        rw [if_neg (show ¬ (false = true) by decide)] at H
        obtain rfl := Option.some.inj H
        have hnb46 := NB470_468.out
        have hnc46 := NB468_470.out
        have hcz47_0 := bc BK470 0
        have hcz47_1 := bc BK470 1
        have hcz47_2 := bc BK470 2
        have hfz47_0 := bf BK470 0
        have hfz47_1 := bf BK470 1
        have hfz47_2 := bf BK470 2
        go_wp2_with (first | (go_at_call 116; (with_reducible refine (epactref03_End.calls kj10 ((rd_T49 l0_0 a1).f0) false _ A23.out).mono ?_); rintro e w48 ⟨rfl, hb⟩; replace BK468 := kb BK468 hb; replace BK470 := kb BK470 hb; replace HB := bs HB hb; (try clear hb)))
        repeat (go_quiet (first | (go_at_call 116; (with_reducible refine (epactref03_End.calls kj10 ((rd_T49 l0_0 a1).f0) false _ A23.out).mono ?_); rintro e w48 ⟨rfl, hb⟩; replace BK468 := kb BK468 hb; replace BK470 := kb BK470 hb; replace HB := bs HB hb; (try clear hb))); try go_wp2_with (first | (go_at_call 116; (with_reducible refine (epactref03_End.calls kj10 ((rd_T49 l0_0 a1).f0) false _ A23.out).mono ?_); rintro e w48 ⟨rfl, hb⟩; replace BK468 := kb BK468 hb; replace BK470 := kb BK470 hb; replace HB := bs HB hb; (try clear hb))))
        go_ret
        exact fi HB
  ·rw [if_neg c4] at H
   exact absurd H (by simp)
 ·rw [if_neg c3] at H
  exact absurd H (by simp)

/-! ### epactref09_Check: function 108 -/
def epactref09_Check.l0 : Nat → Int → Int → List (S49) → Bool → Int → Option (Int × Int)
 | 0, _, _, _, _, _ => none
 | k + 1, x4, x5, x474000, x474001, x474002 => if x5 < (x474000.length : Int) then ((epactref09_wrong.f k x474000 x474001 x474002 x5).bind fun t474 => (if t474 = 0 then (if 0 ≤ x5 then (epactref09_Check.l0 k (wrap64 (86400 * (wrap64 (((rd_T49 x474000 x5).f0) + 1)))) (wrap64 (x5 + 1)) x474000 x474001 x474002) else (none)) else (some (x5, t474)))) else (if x474001 = true then (if x474002 < x4 then (some ((x474000.length : Int), 9)) else (if x474002 > 253402300799 then (some ((x474000.length : Int), 9)) else (some ((x474000.length : Int), 0)))) else (if x474002 = 0 then (some ((x474000.length : Int), 0)) else (some ((x474000.length : Int), 9))))
def epactref09_Check.f (k : Nat) (l0_0 : List (S49)) (a0_1 : Bool) (a0_2 : Int) : Option (Int × Int) := epactref09_Check.l0 k 63072000 0 l0_0 a0_1 a0_2
theorem epactref09_Check.mono_l : ∀ k, (∀ y0 y1 y2 y3 y4, LeO (epactref09_Check.l0 k y0 y1 y2 y3 y4) (epactref09_Check.l0 (k + 1) y0 y1 y2 y3 y4))
 | 0 => fun _ _ _ _ _ r h => by simp [epactref09_Check.l0] at h
 | k + 1 => by
  have ih0 := epactref09_Check.mono_l k
  ·intro y0 y1 y2 y3 y4
   unfold epactref09_Check.l0
   repeat' first
   | (with_reducible exact ih0 _ _ _ _ _)
   | (with_reducible exact epactref09_wrong.mono _ _ _ _ _)
   | (with_reducible exact LeO.refl _)
   | (with_reducible exact LeO.none _)
   | (with_reducible refine LeO.ite ?_ ?_)
   | (with_reducible refine LeO.bind ?_ (fun _ => ?_))
theorem epactref09_Check.mono : ∀ a0 a1 a2 k, LeO (epactref09_Check.f k a0 a1 a2) (epactref09_Check.f (k + 1) a0 a1 a2) := by
 intro a0 a1 a2 k
 have ih0 := epactref09_Check.mono_l k
 unfold epactref09_Check.f
 repeat' first
   | (with_reducible exact ih0 _ _ _ _ _)
   | (with_reducible exact epactref09_wrong.mono _ _ _ _ _)
   | (with_reducible exact LeO.refl _)
   | (with_reducible exact LeO.none _)
   | (with_reducible refine LeO.ite ?_ ?_)
   | (with_reducible refine LeO.bind ?_ (fun _ => ?_))
set_option maxHeartbeats 8000000 in
set_option maxRecDepth 100000 in
theorem epactref09_Check.calls (k : Nat) (A0_0 : Option Addr) (c0_0 : Nat) (l0_0 : List (S49)) (a0_1 : Bool) (a0_2 : Int) (r1 : Int) (r2 : Int) (w : World) (hr0_0 : Kd.C k49 w A0_0 l0_0.length l0_0) (hc0_0 : l0_0.length ≤ c0_0) (h : epactref09_Check.f k l0_0 a0_1 a0_2 = some (r1, r2)) :
  Calls Try.prog 108 #[.agg #[.slice A0_0 l0_0.length c0_0, .bool a0_1, .int .i64 a0_2]] w fun e w' => e = .returned (.tuple #[.int .i64 r1, .int .i64 r2]) ∧ Below w.heap.size w w' := by
 have hu44 := Try.underlying44
 have HR0_0 := Aside0.mk hr0_0
 have HC0_0 := Aside0.mk hc0_0
 clear hr0_0 hc0_0
 have HB := Aside0.mk (Below.refl w.heap.size w)
 have H : (epactref09_Check.l0 k 63072000 0 l0_0 a0_1 a0_2) = some (r1, r2) := h
 clear h
 have H' := Aside0.mk H
 clear H
 go_enter Try.func108, Try.ntmps108
 go_wp2_with (first | (refine bx 1 #[.slice A0_0 l0_0.length c0_0, .bool a0_1, .int .i64 a0_2] 44 ?_; intro gb473 hg w2 hbox hb; have n1_ := Aside0.mk (hbox); have GW473 := gw HB hg; have GE473 := gw HB hg; replace HB := bs HB hb; have BK473 := n1_; clear n1_; clear hb hbox hg))
 go_loopg [4, 5] k (fun kq v4 v5 w' => ∃ (x4_1 : Int) (x5_1 : Int), v4 = .int .i64 x4_1 ∧ v5 = .int .i64 x5_1 ∧ Aside0 (epactref09_Check.l0 kq x4_1 x5_1 l0_0 a0_1 a0_2 = some (r1, r2)) ∧ Aside0 (kq ≤ k) ∧ Aside0 (w'.heap[gb473]? = some (.cells #[(.slice A0_0 l0_0.length c0_0), .bool a0_1, .int .i64 a0_2] 44 (0, 0))) ∧ Aside0 (Below w.heap.size w w'))
 case atStart => exact ⟨(63072000), (0), pr, pr, H', ⟨Nat.le_refl _⟩, ka BK473, ba HB⟩
 case round =>
  clear H'
  try clear c1
  try clear p2
  obtain ⟨x4_1, x5_1, rfl, rfl, HA, HK1, BK473, HB⟩ := hrel
  cases gk with
  | zero => exact absurd HA.out (by simp [epactref09_Check.l0])
  | succ k1 =>
   have H := HA.out
   clear HA
   simp only [epactref09_Check.l0] at H
   by_cases c3 : x5_1 < (l0_0.length : Int)
   ·rw [if_pos c3] at H
    have c3b0 : decide (x5_1 < (l0_0.length : Int)) = true := decide_eq_true c3
    clear c3
    obtain ⟨t474, A4, H⟩ := bnd H
    try dsimp only at H
    by_cases c5 : t474 = 0
    ·rw [if_pos c5] at H
     have c5b0 : (t474 == 0) = true := beq_iff_eq.mpr c5
     have c5b1 : (t474 != 0) = false := bne_eq_false_iff_eq.mpr c5
     clear c5
     by_cases c6 : 0 ≤ x5_1
     ·rw [if_pos c6] at H
      have c6b0 : decide (0 ≤ x5_1) = true := decide_eq_true c6
      clear c6
      have H' := Aside0.mk H
      clear H
      have hcz7_0 := bc BK473 0
      have hcz7_1 := bc BK473 1
      have hcz7_2 := bc BK473 2
      have hfz7_0 := bf BK473 0
      have hfz7_1 := bf BK473 1
      have hfz7_2 := bf BK473 2
      go_wp2_with (first | (refine gM (some 16) Try.func113 #[.agg #[.slice A0_0 l0_0.length c0_0, .bool a0_1, .int .i64 a0_2], .int .i64 x5_1] (epactref09_wrong.calls k1 _ _ l0_0 a0_1 a0_2 x5_1 t474 _ ?side1 ?side2 A4.out) ?_; (case side1 => exact cb HR0_0 HB); (case side2 => exact HC0_0.out); intro w8 hb; replace BK473 := kb BK473 hb; replace HB := bs HB hb; (try clear hb); have hcz9_0 := bc BK473 0; have hcz9_1 := bc BK473 1; have hcz9_2 := bc BK473 2; have hfz9_0 := bf BK473 0; have hfz9_1 := bf BK473 1; have hfz9_2 := bf BK473 2; have p475 : 0 ≤ (x5_1 : Int) := pa; have q475 : x5_1 < (l0_0.length : Int) := pa; obtain ⟨ad475, e475, hx475_0, hx475_1, hx475_2⟩ := at_T49 HR0_0.out x5_1 p475 q475; cases e475; replace hx475_0 := hx HB hx475_0; replace hx475_1 := hx HB hx475_1; replace hx475_2 := hx HB hx475_2; replace p475 := eq_true p475; replace q475 := eq_true q475))
      go_roundg k1
      case measure => have := HK1.out; omega
      case rel => exact ⟨(wrap64 (86400 * (wrap64 (((rd_T49 l0_0 x5_1).f0) + 1)))), (wrap64 (x5_1 + 1)), pr, pr, H', ⟨by have := HK1.out; omega⟩, ka BK473, ba HB⟩
     ·rw [if_neg c6] at H
      exact absurd H (by simp)
    ·rw [if_neg c5] at H
     have c5b0 : (t474 == 0) = false := beq_eq_false_iff_ne.mpr c5
     have c5b1 : (t474 != 0) = true := bne_iff_ne.mpr c5
     simp only [Option.some.injEq, Prod.mk.injEq] at H
     obtain ⟨rfl, rfl⟩ := H
     have hcz10_0 := bc BK473 0
     have hcz10_1 := bc BK473 1
     have hcz10_2 := bc BK473 2
     have hfz10_0 := bf BK473 0
     have hfz10_1 := bf BK473 1
     have hfz10_2 := bf BK473 2
     go_wp2_with (first | (refine gM (some 16) Try.func113 #[.agg #[.slice A0_0 l0_0.length c0_0, .bool a0_1, .int .i64 a0_2], .int .i64 x5_1] (epactref09_wrong.calls k1 _ _ l0_0 a0_1 a0_2 x5_1 t474 _ ?side1 ?side2 A4.out) ?_; (case side1 => exact cb HR0_0 HB); (case side2 => exact HC0_0.out); intro w11 hb; replace BK473 := kb BK473 hb; replace HB := bs HB hb; (try clear hb)))
     go_ret2
     exact fi HB
   ·rw [if_neg c3] at H
    have c3b0 : decide (x5_1 < (l0_0.length : Int)) = false := decide_eq_false c3
    clear c3
    by_cases c12 : a0_1 = true
    ·subst c12
     rw [if_pos rfl] at H
     by_cases c13 : a0_2 < x4_1
     ·rw [if_pos c13] at H
      have c13b0 : decide (a0_2 < x4_1) = true := decide_eq_true c13
      clear c13
      simp only [Option.some.injEq, Prod.mk.injEq] at H
      obtain ⟨rfl, rfl⟩ := H
      have hcz14_0 := bc BK473 0
      have hcz14_1 := bc BK473 1
      have hcz14_2 := bc BK473 2
      have hfz14_0 := bf BK473 0
      have hfz14_1 := bf BK473 1
      have hfz14_2 := bf BK473 2
      go_wp2
      go_ret2
      exact fi HB
     ·rw [if_neg c13] at H
      have c13b0 : decide (a0_2 < x4_1) = false := decide_eq_false c13
      clear c13
      by_cases c15 : a0_2 > 253402300799
      ·rw [if_pos c15] at H
       have c15b0 : decide (253402300799 < a0_2) = true := decide_eq_true c15
       clear c15
       simp only [Option.some.injEq, Prod.mk.injEq] at H
       obtain ⟨rfl, rfl⟩ := H
       have hcz16_0 := bc BK473 0
       have hcz16_1 := bc BK473 1
       have hcz16_2 := bc BK473 2
       have hfz16_0 := bf BK473 0
       have hfz16_1 := bf BK473 1
       have hfz16_2 := bf BK473 2
       go_wp2
       go_ret2
       exact fi HB
      ·rw [if_neg c15] at H
       have c15b0 : decide (253402300799 < a0_2) = false := decide_eq_false c15
       clear c15
       simp only [Option.some.injEq, Prod.mk.injEq] at H
       obtain ⟨rfl, rfl⟩ := H
       have hcz17_0 := bc BK473 0
       have hcz17_1 := bc BK473 1
       have hcz17_2 := bc BK473 2
       have hfz17_0 := bf BK473 0
       have hfz17_1 := bf BK473 1
       have hfz17_2 := bf BK473 2
       go_wp2
       go_ret2
       exact fi HB
    ·replace c12 := Bool.eq_false_iff.mpr c12
     subst c12
     rw [if_neg (show ¬ (false = true) by decide)] at H
     by_cases c18 : a0_2 = 0
     ·rw [if_pos c18] at H
      have c18b0 : (a0_2 == 0) = true := beq_iff_eq.mpr c18
      have c18b1 : (a0_2 != 0) = false := bne_eq_false_iff_eq.mpr c18
      clear c18
      simp only [Option.some.injEq, Prod.mk.injEq] at H
      obtain ⟨rfl, rfl⟩ := H
      have hcz19_0 := bc BK473 0
      have hcz19_1 := bc BK473 1
      have hcz19_2 := bc BK473 2
      have hfz19_0 := bf BK473 0
      have hfz19_1 := bf BK473 1
      have hfz19_2 := bf BK473 2
      go_wp2
      go_ret2
      exact fi HB
     ·rw [if_neg c18] at H
      have c18b0 : (a0_2 == 0) = false := beq_eq_false_iff_ne.mpr c18
      have c18b1 : (a0_2 != 0) = true := bne_iff_ne.mpr c18
      simp only [Option.some.injEq, Prod.mk.injEq] at H
      obtain ⟨rfl, rfl⟩ := H
      have hcz20_0 := bc BK473 0
      have hcz20_1 := bc BK473 1
      have hcz20_2 := bc BK473 2
      have hfz20_0 := bf BK473 0
      have hfz20_1 := bf BK473 1
      have hfz20_2 := bf BK473 2
      go_wp2
      go_ret2
      exact fi HB

/-! ### epactref09_Right: function 101 -/
def epactref09_Right.f (k : Nat) (l0_0 : List (S49)) (a0_1 : Bool) (a0_2 : Int) : Option (Bool) := (epactref09_Check.f k l0_0 a0_1 a0_2).bind fun bt477 => (some (bt477.2 == 0))
theorem epactref09_Right.mono : ∀ a0 a1 a2 k, LeO (epactref09_Right.f k a0 a1 a2) (epactref09_Right.f (k + 1) a0 a1 a2) := by
 intro a0 a1 a2 k
 unfold epactref09_Right.f
 repeat' first
   | (with_reducible exact epactref09_Check.mono _ _ _ _)
   | (with_reducible exact LeO.refl _)
   | (with_reducible exact LeO.none _)
   | (with_reducible refine LeO.ite ?_ ?_)
   | (with_reducible refine LeO.bind ?_ (fun _ => ?_))
set_option maxHeartbeats 8000000 in
set_option maxRecDepth 100000 in
theorem epactref09_Right.calls (k : Nat) (A0_0 : Option Addr) (c0_0 : Nat) (l0_0 : List (S49)) (a0_1 : Bool) (a0_2 : Int) (r : Bool) (w : World) (hr0_0 : Kd.C k49 w A0_0 l0_0.length l0_0) (hc0_0 : l0_0.length ≤ c0_0) (h : epactref09_Right.f k l0_0 a0_1 a0_2 = some r) :
  Calls Try.prog 101 #[.agg #[.slice A0_0 l0_0.length c0_0, .bool a0_1, .int .i64 a0_2]] w fun e w' => e = .returned (.bool r) ∧ Below w.heap.size w w' := by
 have hu44 := Try.underlying44
 have HR0_0 := Aside0.mk hr0_0
 have HC0_0 := Aside0.mk hc0_0
 clear hr0_0 hc0_0
 have HB := Aside0.mk (Below.refl w.heap.size w)
 have H : ((epactref09_Check.f k l0_0 a0_1 a0_2).bind fun bt477 => (some (bt477.2 == 0))) = some r := h
 clear h
 obtain ⟨⟨t477, t478⟩, A2, H⟩ := bnd H
 try dsimp only at H
 obtain rfl := Option.some.inj H
 go_enter Try.func101, Try.ntmps101
 go_wp2_with (first | (refine bx 1 #[.slice A0_0 l0_0.length c0_0, .bool a0_1, .int .i64 a0_2] 44 ?_; intro gb476 hg w3 hbox hb; have n1_ := Aside0.mk (hbox); have GW476 := gw HB hg; have GE476 := gw HB hg; replace HB := bs HB hb; have BK476 := n1_; clear n1_; clear hb hbox hg; have hcz4_0 := bc BK476 0; have hcz4_1 := bc BK476 1; have hcz4_2 := bc BK476 2; have hfz4_0 := bf BK476 0; have hfz4_1 := bf BK476 1; have hfz4_2 := bf BK476 2) | (refine gM (some 7) Try.func108 #[.agg #[.slice A0_0 l0_0.length c0_0, .bool a0_1, .int .i64 a0_2]] (epactref09_Check.calls k _ _ l0_0 a0_1 a0_2 t477 t478 _ ?side1 ?side2 A2.out) ?_; (case side1 => exact cb HR0_0 HB); (case side2 => exact HC0_0.out); intro w5 hb; replace BK476 := kb BK476 hb; replace HB := bs HB hb; (try clear hb)))
 go_ret
 exact fi HB

end Go.Proofs.Ythoigncoojcanaa.PAll
