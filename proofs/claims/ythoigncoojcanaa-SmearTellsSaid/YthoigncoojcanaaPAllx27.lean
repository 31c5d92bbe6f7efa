-- Written for this claim by wip/tools of this repo (after the kit's print; own contracts laid in).
import Derived.Test.YthoigncoojcanaaPAllx0
import Derived.Test.YthoigncoojcanaaShort
import Derived.Test.YthoigncoojcanaaPAllx22
import Derived.Test.YthoigncoojcanaaPAllx23
import Derived.Test.YthoigncoojcanaaPAllx24
import Derived.Test.YthoigncoojcanaaPAllx25
import Derived.Test.YthoigncoojcanaaPAllx26
namespace Go.Proofs.Ythoigncoojcanaa.PAll
open Go.RowKit Go.Proofs.YthoigncoojcanaaW.PrintWords Go.Proofs.YthoigncoojcanaaW.PrintLast Go.Proofs.YthoigncoojcanaaW.PrintMore
attribute [local go_sem] max2_int min2_int max_two min_two max_three min_three max_four min_four   -- for this text's walks alone
set_option linter.unusedVariables false
set_option linter.unusedSimpArgs false

/-! ### epactref25_Unsmear: function 16 -/
mutual
def epactref25_Unsmear.j0 : Nat → List (S53) → Bool → Int → Int → Option (Int × Int × Int)
 | 0, _, _, _, _ => none
 | k + 1, x0, x27, x667000, x667001 => if x27 = true then (some (0, 0, 1)) else ((epactref25_days.f k x0).bind fun t670 => (epactref25_Unsmear.l0 k x0 t670 0 x667000 x667001))
def epactref25_Unsmear.l0 : Nat → List (S53) → List Int → Int → Int → Int → Option (Int × Int × Int)
 | 0, _, _, _, _, _ => none
 | k + 1, x0, x6, x7, x667000, x667001 => if x7 < (x6.length : Int) then (if 0 ≤ x7 then (if x667000 < (wrap64 ((wrap64 (86400 * (rd x6 x7))) + 43200)) then (epactref25_Unsmear.j2 k x0 x6 x7 (wrap64 ((wrap64 (86400 * (rd x6 x7))) + 43200)) true x667000 x667001) else (epactref25_Unsmear.j2 k x0 x6 x7 (wrap64 ((wrap64 (86400 * (rd x6 x7))) + 43200)) (decide ((wrap64 (x667000 - (wrap64 ((wrap64 (86400 * (rd x6 x7))) + 43200)))) ≥ 86400)) x667000 x667001)) else (none)) else ((epactref23_Tai.f k x0 x667000).bind fun bt673 => (if bt673.2 = 0 then (some (bt673.1, x667001, 0)) else (some (0, 0, bt673.2))))
def epactref25_Unsmear.j2 : Nat → List (S53) → List Int → Int → Int → Bool → Int → Int → Option (Int × Int × Int)
 | 0, _, _, _, _, _, _, _ => none
 | k + 1, x0, x6, x7, x8, x53, x667000, x667001 => if x53 = true then (epactref25_Unsmear.l0 k x0 x6 (wrap64 (x7 + 1)) x667000 x667001) else (if 0 ≤ x7 then (if x7 < (x6.length : Int) then ((epactref22_Length.f k x0 (rd x6 x7)).bind fun bt677 => ((epactref02_Up.f k (wrap64 ((wrap64 ((wrap64 (x667000 - x8)) * 1000000000)) + x667001)) bt677.1 86400).bind fun bt679 => ((epactref25_noon.f k x0 (rd x6 x7)).bind fun t682 => ((epactref25_behind.f t682 bt679.1).bind fun bt683 => ((epactref22_Utc.f k x0 bt683.1).bind fun bt686 => (if bt686.2.2 = 0 then (some (bt683.1, bt683.2, 0)) else (some (0, 0, bt686.2.2)))))))) else (none)) else (none))
end
def epactref25_Unsmear.f (k : Nat) (l0 : List (S53)) (a1_0 : Int) (a1_1 : Int) : Option (Int × Int × Int) := (epactref22_Known.f k l0).bind fun t668 => (if t668 = true then ((epactref25_tick.f a1_0 a1_1).bind fun t669 => (epactref25_Unsmear.j0 k l0 (!t669) a1_0 a1_1)) else (epactref25_Unsmear.j0 k l0 true a1_0 a1_1))
theorem epactref25_Unsmear.mono_l : ∀ k, (∀ y0 y1 y2 y3, LeO (epactref25_Unsmear.j0 k y0 y1 y2 y3) (epactref25_Unsmear.j0 (k + 1) y0 y1 y2 y3)) ∧ (∀ y0 y1 y2 y3 y4, LeO (epactref25_Unsmear.l0 k y0 y1 y2 y3 y4) (epactref25_Unsmear.l0 (k + 1) y0 y1 y2 y3 y4)) ∧ (∀ y0 y1 y2 y3 y4 y5 y6, LeO (epactref25_Unsmear.j2 k y0 y1 y2 y3 y4 y5 y6) (epactref25_Unsmear.j2 (k + 1) y0 y1 y2 y3 y4 y5 y6))
 | 0 => ⟨fun _ _ _ _ r h => by simp [epactref25_Unsmear.j0] at h, fun _ _ _ _ _ r h => by simp [epactref25_Unsmear.l0] at h, fun _ _ _ _ _ _ _ r h => by simp [epactref25_Unsmear.j2] at h⟩
 | k + 1 => by
  obtain ⟨ih0, ih1, ih2⟩ := epactref25_Unsmear.mono_l k
  refine ⟨?_, ?_, ?_⟩
  ·intro y0 y1 y2 y3
   unfold epactref25_Unsmear.j0
   repeat' first
   | (with_reducible exact ih0 _ _ _ _)
   | (with_reducible exact ih1 _ _ _ _ _)
   | (with_reducible exact ih2 _ _ _ _ _ _ _)
   | (with_reducible exact epactref02_Up.mono _ _ _ _)
   | (with_reducible exact epactref22_Known.mono _ _)
   | (with_reducible exact epactref22_Length.mono _ _ _)
   | (with_reducible exact epactref22_Utc.mono _ _ _)
   | (with_reducible exact epactref23_Tai.mono _ _ _)
   | (with_reducible exact epactref25_days.mono _ _)
   | (with_reducible exact epactref25_noon.mono _ _ _)
   | (with_reducible exact LeO.refl _)
   | (with_reducible exact LeO.none _)
   | (with_reducible refine LeO.ite ?_ ?_)
   | (with_reducible refine LeO.bind ?_ (fun _ => ?_))
  ·intro y0 y1 y2 y3 y4
   unfold epactref25_Unsmear.l0
   repeat' first
   | (with_reducible exact ih0 _ _ _ _)
   | (with_reducible exact ih1 _ _ _ _ _)
   | (with_reducible exact ih2 _ _ _ _ _ _ _)
   | (with_reducible exact epactref02_Up.mono _ _ _ _)
   | (with_reducible exact epactref22_Known.mono _ _)
   | (with_reducible exact epactref22_Length.mono _ _ _)
   | (with_reducible exact epactref22_Utc.mono _ _ _)
   | (with_reducible exact epactref23_Tai.mono _ _ _)
   | (with_reducible exact epactref25_days.mono _ _)
   | (with_reducible exact epactref25_noon.mono _ _ _)
   | (with_reducible exact LeO.refl _)
   | (with_reducible exact LeO.none _)
   | (with_reducible refine LeO.ite ?_ ?_)
   | (with_reducible refine LeO.bind ?_ (fun _ => ?_))
  ·intro y0 y1 y2 y3 y4 y5 y6
   unfold epactref25_Unsmear.j2
   repeat' first
   | (with_reducible exact ih0 _ _ _ _)
   | (with_reducible exact ih1 _ _ _ _ _)
   | (with_reducible exact ih2 _ _ _ _ _ _ _)
   | (with_reducible exact epactref02_Up.mono _ _ _ _)
   | (with_reducible exact epactref22_Known.mono _ _)
   | (with_reducible exact epactref22_Length.mono _ _ _)
   | (with_reducible exact epactref22_Utc.mono _ _ _)
   | (with_reducible exact epactref23_Tai.mono _ _ _)
   | (with_reducible exact epactref25_days.mono _ _)
   | (with_reducible exact epactref25_noon.mono _ _ _)
   | (with_reducible exact LeO.refl _)
   | (with_reducible exact LeO.none _)
   | (with_reducible refine LeO.ite ?_ ?_)
   | (with_reducible refine LeO.bind ?_ (fun _ => ?_))
theorem epactref25_Unsmear.mono : ∀ a0 a1 a2 k, LeO (epactref25_Unsmear.f k a0 a1 a2) (epactref25_Unsmear.f (k + 1) a0 a1 a2) := by
 intro a0 a1 a2 k
 obtain ⟨ih0, ih1, ih2⟩ := epactref25_Unsmear.mono_l k
 unfold epactref25_Unsmear.f
 repeat' first
   | (with_reducible exact ih0 _ _ _ _)
   | (with_reducible exact ih1 _ _ _ _ _)
   | (with_reducible exact ih2 _ _ _ _ _ _ _)
   | (with_reducible exact epactref02_Up.mono _ _ _ _)
   | (with_reducible exact epactref22_Known.mono _ _)
   | (with_reducible exact epactref22_Length.mono _ _ _)
   | (with_reducible exact epactref22_Utc.mono _ _ _)
   | (with_reducible exact epactref23_Tai.mono _ _ _)
   | (with_reducible exact epactref25_days.mono _ _)
   | (with_reducible exact epactref25_noon.mono _ _ _)
   | (with_reducible exact LeO.refl _)
   | (with_reducible exact LeO.none _)
   | (with_reducible refine LeO.ite ?_ ?_)
   | (with_reducible refine LeO.bind ?_ (fun _ => ?_))
set_option maxHeartbeats 8000000 in
set_option maxRecDepth 100000 in
theorem epactref25_Unsmear.calls (k : Nat) (A0 : Option Addr) (c0 : Nat) (l0 : List (S53)) (a1_0 : Int) (a1_1 : Int) (r1 : Int) (r2 : Int) (r3 : Int) (w : World) (hr0 : Kd.C k53 w A0 l0.length l0) (hc0 : l0.length ≤ c0) (h : epactref25_Unsmear.f k l0 a1_0 a1_1 = some (r1, r2, r3)) :
  Calls Try.prog 16 #[.slice A0 l0.length c0, .agg #[.int .i64 a1_0, .int .i64 a1_1]] w fun e w' => e = .returned (.tuple #[.agg #[.int .i64 r1, .int .i64 r2], .int .i64 r3]) ∧ Below w.heap.size w w' := by
 have hu24 := Try.underlying24
 have HR0 := Aside0.mk hr0
 have HC0 := Aside0.mk hc0
 clear hr0 hc0
 have HB := Aside0.mk (Below.refl w.heap.size w)
 have H : ((epactref22_Known.f k l0).bind fun t668 => (if t668 = true then ((epactref25_tick.f a1_0 a1_1).bind fun t669 => (epactref25_Unsmear.j0 k l0 (!t669) a1_0 a1_1)) else (epactref25_Unsmear.j0 k l0 true a1_0 a1_1))) = some (r1, r2, r3) := h
 clear h
 have HC3 := Aside0.mk H
 clear H
 go_enter Try.func16, Try.ntmps16
 go_upto_region 1 with (first | ((with_reducible refine gate_dst (N := 3) rfl ?_); refine bx 3 #[.int .i64 a1_0, .int .i64 a1_1] 24 ?_; intro gb666 hg w4 hbox hb; have n1_ := Aside0.mk (hbox); have GW666 := gw HB hg; have GE666 := gw HB hg; replace HB := bs HB hb; have BK666 := n1_; clear n1_; clear hb hbox hg) | ((with_reducible refine gate_dst (N := 4) rfl ?_); refine bx 4 #[.int .i64 0, .int .i64 0] 24 ?_; intro gb667 hg w5 hbox hb; have n2_ := Aside0.mk (hbox); have GW667 := gw HB hg; have GE667 := gw HB hg; have NB666_667 := nl BK666 hg; have NB667_666 := nr BK666 hg; replace BK666 := kb BK666 hb; replace HB := bs HB hb; have BK667 := n2_; clear n2_; clear hb hbox hg))
 (try simp only [Act.put, List.setIfInBounds_toArray, List.set_cons_zero, List.set_cons_succ])
 go_cut [27] (fun v27 wc => ∃ (kq : Nat) (x27_2 : Bool), v27 = .bool x27_2 ∧ Aside0 (epactref25_Unsmear.j0 kq l0 x27_2 a1_0 a1_1 = some (r1, r2, r3)) ∧ Aside0 (kq ≤ k) ∧ Aside0 (wc.heap[gb666]? = some (.cells #[.int .i64 a1_0, .int .i64 a1_1] 24 (0, 0))) ∧ Aside0 (wc.heap[gb667]? = some (.cells #[.int .i64 0, .int .i64 0] 24 (0, 0))) ∧ Aside0 (Below w.heap.size w wc))
 case first =>
  have H := HC3.out
  clear HC3
  obtain ⟨t668, A6, H⟩ := bnd H
  try dsimp only at H
  by_cases c7 : t668 = true
  ·subst c7
   rw [if_pos rfl] at H
   obtain ⟨t669, A8, H⟩ := bnd H
   try dsimp only at H
   have H' := Aside0.mk H
   clear H
   go_wp2_with (first | (refine gM (some 21) Try.func33 #[.slice A0 l0.length c0] (epactref22_Known.calls k _ _ l0 true _ ?side1 ?side2 A6.out) ?_; (case side1 => exact cb HR0 HB); (case side2 => exact HC0.out); intro w9 hb; replace BK666 := kb BK666 hb; replace BK667 := kb BK667 hb; replace HB := bs HB hb; (try clear hb); have hnb10 := NB666_667.out; have hnc10 := NB667_666.out; have hcz11_0 := bc BK666 0; have hcz11_1 := bc BK666 1; have hfz11_0 := bf BK666 0; have hfz11_1 := bf BK666 1) | (go_at_call 47; (with_reducible refine (epactref25_tick.calls a1_0 a1_1 t669 _ A8.out).mono ?_); rintro e w12 ⟨rfl, hb⟩; replace BK666 := kb BK666 hb; replace BK667 := kb BK667 hb; replace HB := bs HB hb; (try clear hb)))
   go_meet
   case rel => exact ⟨_, (!t669), pr, H', om, ka BK666, ka BK667, ba HB⟩
  ·replace c7 := Bool.eq_false_iff.mpr c7
   subst c7
   rw [if_neg (show ¬ (false = true) by decide)] at H
   have H' := Aside0.mk H
   clear H
   go_wp2_with (first | (refine gM (some 21) Try.func33 #[.slice A0 l0.length c0] (epactref22_Known.calls k _ _ l0 false _ ?side1 ?side2 A6.out) ?_; (case side1 => exact cb HR0 HB); (case side2 => exact HC0.out); intro w13 hb; replace BK666 := kb BK666 hb; replace BK667 := kb BK667 hb; replace HB := bs HB hb; (try clear hb)))
   go_meet
   case rel => exact ⟨_, (true), pr, H', om, ka BK666, ka BK667, ba HB⟩
 case rest =>
  clear HC3
  try clear c1
  try clear p2
  try clear c3
  try clear c7
  try clear c10
  try clear hcz11_0
  try clear hcz11_1
  try clear hfz11_0
  try clear hfz11_1
  obtain ⟨kq, x27_2, rfl, HA, HJ2, BK666, BK667, HB⟩ := hcut
  cases kq with
  | zero => exact absurd HA.out (by simp [epactref25_Unsmear.j0])
  | succ kj2 =>
   have H := HA.out
   clear HA
   simp only [epactref25_Unsmear.j0] at H
   by_cases c14 : x27_2 = true
   ·subst c14
    rw [if_pos rfl] at H
    simp only [Option.some.injEq, Prod.mk.injEq] at H
    obtain ⟨rfl, rfl, rfl⟩ := H
    have hnb15 := NB667_666.out
    have hnc15 := NB666_667.out
    have hcz16_0 := bc BK667 0
    have hcz16_1 := bc BK667 1
    have hfz16_0 := bf BK667 0
    have hfz16_1 := bf BK667 1
    go_wp2
    refine bodyPost_ret (results_ct rfl _ _ gb667 24 #[.int .i64 0, .int .i64 0] (0, 0) _ rfl (by (with_reducible repeat (first | refine blk_drewN ?_ _ | refine blk_drew ?_ | refine blk_alloc ?_ _)); refine blk_put (cs := #[.int .i64 0, .int .i64 0]) ?_ 1 _ rfl; (with_reducible repeat (first | refine blk_drewN ?_ _ | refine blk_drew ?_ | refine blk_alloc ?_ _)); refine blk_put (cs := #[.int .i64 0, .int .i64 0]) ?_ 0 _ rfl; (with_reducible repeat (first | refine blk_drewN ?_ _ | refine blk_drew ?_ | refine blk_alloc ?_ _)); exact BK667.out) Try.underlying24 rfl (by kernel_rfl)) rfl ?_
    exact fi HB
   ·replace c14 := Bool.eq_false_iff.mpr c14
    subst c14
    rw [if_neg (show ¬ (false = true) by decide)] at H
    obtain ⟨t670, A17, H⟩ := bnd H
    try dsimp only at H
    have H' := Aside0.mk H
    clear H
    go_wp2_with (first | (refine gL (some 30) Try.func48 #[.slice A0 l0.length c0] ?_; (with_reducible refine (epactref25_days.calls kj2 _ _ l0 t670 _ ?side1 ?side2 A17.out).mono ?_); (case side1 => exact cb HR0 HB); (case side2 => exact HC0.out); rintro e w18 ⟨v671, rfl, ho0, hb⟩; refine ⟨_, rfl, ?_⟩; have HO672 := lw ho0 HB; replace BK666 := kb BK666 hb; replace BK667 := kb BK667 hb; replace HB := bs HB hb; (try clear hb); (try clear ho0)))
    go_loopg [7] kj2 (fun kq v7 w' => ∃ (x7_2 : Int) (x668000_2 : Int) (x668001_2 : Int), v7 = .int .i64 x7_2 ∧ Aside0 (epactref25_Unsmear.l0 kq l0 t670 x7_2 a1_0 a1_1 = some (r1, r2, r3)) ∧ Aside0 (kq ≤ kj2) ∧ Aside0 (Kd.R (Kd.int .i64) 3 w' w.heap.size (fun _ => True) v671 t670) ∧ Aside0 (w'.heap[gb666]? = some (.cells #[.int .i64 a1_0, .int .i64 a1_1] 24 (0, 0))) ∧ Aside0 (w'.heap[gb667]? = some (.cells #[.int .i64 x668000_2, .int .i64 x668001_2] 24 (0, 0))) ∧ Aside0 (Below w.heap.size w w'))
    case atStart => exact ⟨(0), (0), (0), pr, H', ⟨Nat.le_refl _⟩, ra HO672, ka BK666, ka BK667, ba HB⟩
    case round =>
     clear H'
     try clear c1
     try clear p2
     try clear c3
     try clear c4
     try clear c7
     try clear c10
     try clear c14
     try clear c15
     try clear c16
     try clear hcz11_0
     try clear hcz11_1
     try clear hcz16_0
     try clear hcz16_1
     try clear hfz11_0
     try clear hfz11_1
     try clear hfz16_0
     try clear hfz16_1
     try clear p2
     obtain ⟨x7_2, x668000_2, x668001_2, rfl, HA, HK2, HO_6, BK666, BK667, HB⟩ := hrel
     cases gk with
     | zero => exact absurd HA.out (by simp [epactref25_Unsmear.l0])
     | succ k2 =>
      have H := HA.out
      clear HA
      simp only [epactref25_Unsmear.l0] at H
      by_cases c19 : x7_2 < (t670.length : Int)
      ·rw [if_pos c19] at H
       have c19b0 : decide (x7_2 < (t670.length : Int)) = true := decide_eq_true c19
       clear c19
       by_cases c20 : 0 ≤ x7_2
       ·rw [if_pos c20] at H
        have c20b0 : decide (0 ≤ x7_2) = true := decide_eq_true c20
        clear c20
        have HC21 := Aside0.mk H
        clear H
        obtain ⟨Ao22, co22, eo22⟩ := Kd.R_slice HO_6.out
        subst eo22
        have p675 : 0 ≤ (x7_2 : Int) := pa
        have q675 : x7_2 < (t670.length : Int) := pa
        obtain ⟨ad675, e675, hx675_0⟩ := Kd.at_int (Kd.R_reads' HO_6.out).2.2 x7_2 p675 q675
        cases e675
        replace p675 := eq_true p675
        replace q675 := eq_true q675
        go_upto_region 8 with (fail)
        go_cut [53] (fun v53 wc => ∃ (kq : Nat) (x53_20 : Bool), v53 = .bool x53_20 ∧ Aside0 (epactref25_Unsmear.j2 kq l0 t670 x7_2 (wrap64 ((wrap64 (86400 * (rd t670 x7_2))) + 43200)) x53_20 a1_0 a1_1 = some (r1, r2, r3)) ∧ Aside0 (kq ≤ k2) ∧ Aside0 (Kd.R (Kd.int .i64) 3 wc w.heap.size (fun _ => True) (.slice (some ad675) t670.length co22) t670) ∧ Aside0 (wc.heap[gb666]? = some (.cells #[.int .i64 a1_0, .int .i64 a1_1] 24 (0, 0))) ∧ Aside0 (wc.heap[gb667]? = some (.cells #[.int .i64 x668000_2, .int .i64 x668001_2] 24 (0, 0))) ∧ Aside0 (Below w.heap.size w wc))
        case first =>
         have H := HC21.out
         clear HC21
         by_cases c23 : a1_0 < (wrap64 ((wrap64 (86400 * (rd t670 x7_2))) + 43200))
         ·rw [if_pos c23] at H
          have c23b0 : decide (a1_0 < (wrap64 ((wrap64 (86400 * (rd t670 x7_2))) + 43200))) = true := decide_eq_true c23
          clear c23
          (first | rw [c23b0] | (simp only [i64_w, i32_w]; rw [c23b0]) | skip)
          have H' := Aside0.mk H
          clear H
          have hnb24 := NB666_667.out
          have hnc24 := NB667_666.out
          have hcz25_0 := bc BK666 0
          have hcz25_1 := bc BK666 1
          have hfz25_0 := bf BK666 0
          have hfz25_1 := bf BK666 1
          go_wp2
          go_meet
          case rel => exact ⟨_, (true), pr, H', ⟨by have := HJ2.out; have := HK2.out; first | omega | exact Nat.le_refl _⟩, ra HO_6, ka BK666, ka BK667, ba HB⟩
         ·rw [if_neg c23] at H
          have c23b0 : decide (a1_0 < (wrap64 ((wrap64 (86400 * (rd t670 x7_2))) + 43200))) = false := decide_eq_false c23
          clear c23
          (first | rw [c23b0] | (simp only [i64_w, i32_w]; rw [c23b0]) | skip)
          have H' := Aside0.mk H
          clear H
          have hnb26 := NB666_667.out
          have hnc26 := NB667_666.out
          have hcz27_0 := bc BK666 0
          have hcz27_1 := bc BK666 1
          have hfz27_0 := bf BK666 0
          have hfz27_1 := bf BK666 1
          go_wp2
          go_meet
          case rel => exact ⟨_, (decide ((wrap64 (a1_0 - (wrap64 ((wrap64 (86400 * (rd t670 x7_2))) + 43200)))) ≥ 86400)), pr, H', ⟨by have := HJ2.out; have := HK2.out; first | omega | exact Nat.le_refl _⟩, ra HO_6, ka BK666, ka BK667, ba HB⟩
        case rest =>
         clear HC21
         try clear c1
         try clear c2
         try clear p2
         try clear c3
         try clear c4
         try clear p6
         try clear q6
         try clear hx6
         try clear c7
         try clear c10
         try clear c14
         try clear c15
         try clear c16
         try clear c19
         try clear c19b0
         try clear c20
         try clear c20b0
         try clear c23
         try clear c23b0
         try clear c24
         try clear c26
         try clear hcz11_0
         try clear hcz11_1
         try clear hcz16_0
         try clear hcz16_1
         try clear hcz25_0
         try clear hcz25_1
         try clear hcz27_0
         try clear hcz27_1
         try clear hfz11_0
         try clear hfz11_1
         try clear hfz16_0
         try clear hfz16_1
         try clear hfz25_0
         try clear hfz25_1
         try clear hfz27_0
         try clear hfz27_1
         try clear hx675_0
         try clear p2
         try clear p675
         try clear q675
         obtain ⟨kq, x53_20, rfl, HA, HJ20, HO_6, BK666, BK667, HB⟩ := hcut
         cases kq with
         | zero => exact absurd HA.out (by simp [epactref25_Unsmear.j2])
         | succ kj20 =>
          have H := HA.out
          clear HA
          simp only [epactref25_Unsmear.j2] at H
          by_cases c28 : x53_20 = true
          ·subst c28
           rw [if_pos rfl] at H
           have H' := Aside0.mk H
           clear H
           go_wp2
           go_roundg kj20
           case measure => have := HJ2.out; have := HK2.out; have := HJ20.out; omega
           case rel => exact ⟨(wrap64 (x7_2 + 1)), (x668000_2), (x668001_2), pr, H', ⟨by have := HJ2.out; have := HK2.out; have := HJ20.out; omega⟩, ra HO_6, ka BK666, ka BK667, ba HB⟩
          ·replace c28 := Bool.eq_false_iff.mpr c28
           subst c28
           rw [if_neg (show ¬ (false = true) by decide)] at H
           by_cases c29 : 0 ≤ x7_2
           ·rw [if_pos c29] at H
            have c29b0 : decide (0 ≤ x7_2) = true := decide_eq_true c29
            clear c29
            by_cases c30 : x7_2 < (t670.length : Int)
            ·rw [if_pos c30] at H
             have c30b0 : decide (x7_2 < (t670.length : Int)) = true := decide_eq_true c30
             clear c30
             obtain ⟨⟨t677, t678⟩, A31, H⟩ := bnd H
             try dsimp only at H
             obtain ⟨⟨t679, t680⟩, A32, H⟩ := bnd H
             try dsimp only at H
             obtain ⟨t682, A33, H⟩ := bnd H
             try dsimp only at H
             obtain ⟨⟨t683, t684⟩, A34, H⟩ := bnd H
             try dsimp only at H
             obtain ⟨⟨t686, t687, t688⟩, A35, H⟩ := bnd H
             try dsimp only at H
             by_cases c36 : t688 = 0
             ·rw [if_pos c36] at H
              have c36b0 : (t688 == 0) = true := beq_iff_eq.mpr c36
              have c36b1 : (t688 != 0) = false := bne_eq_false_iff_eq.mpr c36
              clear c36
              simp only [Option.some.injEq, Prod.mk.injEq] at H
              obtain ⟨rfl, rfl, rfl⟩ := H
              have p676 : 0 ≤ (x7_2 : Int) := pa
              have q676 : x7_2 < (t670.length : Int) := pa
              obtain ⟨ad676, e676, hx676_0⟩ := Kd.at_int (Kd.R_reads' HO_6.out).2.2 x7_2 p676 q676
              obtain rfl : ad675 = ad676 := (by injection e676)
              replace p676 := eq_true p676
              replace q676 := eq_true q676
              go_wp2_with (first | (refine gM (some 60) Try.func35 #[.slice A0 l0.length c0, .int .i64 (rd t670 x7_2)] (epactref22_Length.calls kj20 _ _ l0 (rd t670 x7_2) t677 t678 _ ?side1 ?side2 A31.out) ?_; (case side1 => exact cb HR0 HB); (case side2 => exact HC0.out); intro w37 hb; replace HO_6 := rb HO_6 hb; replace BK666 := kb BK666 hb; replace BK667 := kb BK667 hb; replace HB := bs HB hb; (try clear hb); (try clear hb2); (try clear hk); (try clear hi); have hnb38 := NB666_667.out; have hnc38 := NB667_666.out; have hcz39_0 := bc BK666 0; have hcz39_1 := bc BK666 1; have hfz39_0 := bf BK666 0; have hfz39_1 := bf BK666 1) | (refine gM (some 74) Try.func49 #[.int .i64 (wrap64 ((wrap64 ((wrap64 (a1_0 - (wrap64 ((wrap64 (86400 * (rd t670 x7_2))) + 43200)))) * 1000000000)) + a1_1)), .int .i64 t677, .int .i64 86400] (epactref02_Up.calls kj20 (wrap64 ((wrap64 ((wrap64 (a1_0 - (wrap64 ((wrap64 (86400 * (rd t670 x7_2))) + 43200)))) * 1000000000)) + a1_1)) t677 86400 t679 t680 _ A32.out) ?_; intro w40 hb; replace HO_6 := rb HO_6 hb; replace BK666 := kb BK666 hb; replace BK667 := kb BK667 hb; replace HB := bs HB hb; (try clear hb); (try clear hb2); (try clear hk); (try clear hi); have p681 : 0 ≤ (x7_2 : Int) := pa; have q681 : x7_2 < (t670.length : Int) := pa; obtain ⟨ad681, e681, hx681_0⟩ := Kd.at_int (Kd.R_reads' HO_6.out).2.2 x7_2 p681 q681; obtain rfl : ad675 = ad681 := (by injection e681); replace p681 := eq_true p681; replace q681 := eq_true q681) | (refine gM (some 82) Try.func36 #[.slice A0 l0.length c0, .int .i64 (rd t670 x7_2)] (epactref25_noon.calls kj20 _ _ l0 (rd t670 x7_2) t682 _ ?side1 ?side2 A33.out) ?_; (case side1 => exact cb HR0 HB); (case side2 => exact HC0.out); intro w41 hb; replace HO_6 := rb HO_6 hb; replace BK666 := kb BK666 hb; replace BK667 := kb BK667 hb; replace HB := bs HB hb; (try clear hb); (try clear hb2); (try clear hk); (try clear hi)) | (refine gM (some 84) Try.func42 #[.int .i64 t682, .int .i64 t679] (epactref25_behind.calls t682 t679 t683 t684 _ A34.out) ?_; intro w42 hb; replace HO_6 := rb HO_6 hb; replace BK666 := kb BK666 hb; replace BK667 := kb BK667 hb; replace HB := bs HB hb; (try clear hb); (try clear hb2); (try clear hk); (try clear hi)) | ((with_reducible refine gate_dst (N := 14) rfl ?_); refine bx 14 #[.int .i64 0, .int .i64 0] 24 ?_; intro gb685 hg w43 hbox hb; have n4_ := Aside0.mk (hbox); have GW685 := gw HB hg; have GE685 := gw HB hg; have NB666_685 := nl BK666 hg; have NB685_666 := nr BK666 hg; have NB667_685 := nl BK667 hg; have NB685_667 := nr BK667 hg; replace HO_6 := rb HO_6 hb; replace BK666 := kb BK666 hb; replace BK667 := kb BK667 hb; replace HB := bs HB hb; have BK685 := n4_; clear n4_; clear hb hbox hg; have hnb44 := NB685_666.out; have hnc44 := NB666_685.out; have hnb45 := NB685_667.out; have hnc45 := NB667_685.out; have hcz46_0 := bc BK685 0; have hcz46_1 := bc BK685 1; have hfz46_0 := bf BK685 0; have hfz46_1 := bf BK685 1) | (refine gM (some 89) Try.func50 #[.slice A0 l0.length c0, .int .i64 t683] (epactref22_Utc.calls kj20 _ _ l0 t683 t686 t687 t688 _ ?side1 ?side2 A35.out) ?_; (case side1 => exact cb HR0 HB); (case side2 => exact HC0.out); intro w47 hb; have n0_ := Aside0.mk (Kd.R_below (by (with_reducible repeat (first | apply Kd.R_alloc | apply Kd.R_drewN | apply Kd.R_drew)); exact (Kd.R_mono (Kd.R_far (p := ⟨gb685, 1, none⟩) (Kd.R_far (p := ⟨gb685, 0, none⟩) (Kd.R_types HO_6.out BK685.out (by decide)) (fun _ hk => hk.2) (.int .i64 t683)) (fun _ hk => hk.2) (.int .i64 t684)) (fun _ h_ => h_.1))) hb); have n1_ := kf BK666 hb; have n2_ := kf BK667 hb; have n3_ := Aside0.mk (blk_below (g := gb685) (o := .cells #[.int .i64 t683, .int .i64 t684] 24 (0, 0)) (by (with_reducible repeat (first | refine blk_drewN ?_ _ | refine blk_drew ?_ | refine blk_alloc ?_ _)); refine blk_put (cs := #[.int .i64 t683, .int .i64 0]) ?_ 1 _ rfl; (with_reducible repeat (first | refine blk_drewN ?_ _ | refine blk_drew ?_ | refine blk_alloc ?_ _)); refine blk_put (cs := #[.int .i64 0, .int .i64 0]) ?_ 0 _ rfl; (with_reducible repeat (first | refine blk_drewN ?_ _ | refine blk_drew ?_ | refine blk_alloc ?_ _)); exact BK685.out) hb); replace HB := bs HB hb; clear HO_6; clear BK666; clear BK667; clear BK685; have HO_6 := n0_; have BK666 := n1_; have BK667 := n2_; have BK685 := n3_; clear n0_ n1_ n2_ n3_; (try clear hb); (try clear hb2); (try clear hk); (try clear hi); have hcz48_0 := bc BK685 0; have hcz48_1 := bc BK685 1; have hfz48_0 := bf BK685 0; have hfz48_1 := bf BK685 1; have hcz49_0 := bc BK667 0; have hcz49_1 := bc BK667 1; have hfz49_0 := bf BK667 0; have hfz49_1 := bf BK667 1))
              refine bodyPost_ret (results_ct rfl _ _ gb667 24 #[.int .i64 t683, .int .i64 t684] (0, 0) _ rfl (by (with_reducible repeat (first | refine blk_drewN ?_ _ | refine blk_drew ?_ | refine blk_alloc ?_ _)); refine blk_put (cs := #[.int .i64 t683, .int .i64 x668001_2]) ?_ 1 _ rfl; (with_reducible repeat (first | refine blk_drewN ?_ _ | refine blk_drew ?_ | refine blk_alloc ?_ _)); refine blk_put (cs := #[.int .i64 x668000_2, .int .i64 x668001_2]) ?_ 0 _ rfl; (with_reducible repeat (first | refine blk_drewN ?_ _ | refine blk_drew ?_ | refine blk_alloc ?_ _)); exact BK667.out) Try.underlying24 rfl (by kernel_rfl)) rfl ?_
              exact fi HB
             ·rw [if_neg c36] at H
              have c36b0 : (t688 == 0) = false := beq_eq_false_iff_ne.mpr c36
              have c36b1 : (t688 != 0) = true := bne_iff_ne.mpr c36
              simp only [Option.some.injEq, Prod.mk.injEq] at H
              obtain ⟨rfl, rfl, rfl⟩ := H
              have p676 : 0 ≤ (x7_2 : Int) := pa
              have q676 : x7_2 < (t670.length : Int) := pa
              obtain ⟨ad676, e676, hx676_0⟩ := Kd.at_int (Kd.R_reads' HO_6.out).2.2 x7_2 p676 q676
              obtain rfl : ad675 = ad676 := (by injection e676)
              replace p676 := eq_true p676
              replace q676 := eq_true q676
              go_wp2_with (first | (refine gM (some 60) Try.func35 #[.slice A0 l0.length c0, .int .i64 (rd t670 x7_2)] (epactref22_Length.calls kj20 _ _ l0 (rd t670 x7_2) t677 t678 _ ?side1 ?side2 A31.out) ?_; (case side1 => exact cb HR0 HB); (case side2 => exact HC0.out); intro w50 hb; replace HO_6 := rb HO_6 hb; replace BK666 := kb BK666 hb; replace BK667 := kb BK667 hb; replace HB := bs HB hb; (try clear hb); (try clear hb2); (try clear hk); (try clear hi); have hnb51 := NB666_667.out; have hnc51 := NB667_666.out; have hcz52_0 := bc BK666 0; have hcz52_1 := bc BK666 1; have hfz52_0 := bf BK666 0; have hfz52_1 := bf BK666 1) | (refine gM (some 74) Try.func49 #[.int .i64 (wrap64 ((wrap64 ((wrap64 (a1_0 - (wrap64 ((wrap64 (86400 * (rd t670 x7_2))) + 43200)))) * 1000000000)) + a1_1)), .int .i64 t677, .int .i64 86400] (epactref02_Up.calls kj20 (wrap64 ((wrap64 ((wrap64 (a1_0 - (wrap64 ((wrap64 (86400 * (rd t670 x7_2))) + 43200)))) * 1000000000)) + a1_1)) t677 86400 t679 t680 _ A32.out) ?_; intro w53 hb; replace HO_6 := rb HO_6 hb; replace BK666 := kb BK666 hb; replace BK667 := kb BK667 hb; replace HB := bs HB hb; (try clear hb); (try clear hb2); (try clear hk); (try clear hi); have p681 : 0 ≤ (x7_2 : Int) := pa; have q681 : x7_2 < (t670.length : Int) := pa; obtain ⟨ad681, e681, hx681_0⟩ := Kd.at_int (Kd.R_reads' HO_6.out).2.2 x7_2 p681 q681; obtain rfl : ad675 = ad681 := (by injection e681); replace p681 := eq_true p681; replace q681 := eq_true q681) | (refine gM (some 82) Try.func36 #[.slice A0 l0.length c0, .int .i64 (rd t670 x7_2)] (epactref25_noon.calls kj20 _ _ l0 (rd t670 x7_2) t682 _ ?side1 ?side2 A33.out) ?_; (case side1 => exact cb HR0 HB); (case side2 => exact HC0.out); intro w54 hb; replace HO_6 := rb HO_6 hb; replace BK666 := kb BK666 hb; replace BK667 := kb BK667 hb; replace HB := bs HB hb; (try clear hb); (try clear hb2); (try clear hk); (try clear hi)) | (refine gM (some 84) Try.func42 #[.int .i64 t682, .int .i64 t679] (epactref25_behind.calls t682 t679 t683 t684 _ A34.out) ?_; intro w55 hb; replace HO_6 := rb HO_6 hb; replace BK666 := kb BK666 hb; replace BK667 := kb BK667 hb; replace HB := bs HB hb; (try clear hb); (try clear hb2); (try clear hk); (try clear hi)) | ((with_reducible refine gate_dst (N := 14) rfl ?_); refine bx 14 #[.int .i64 0, .int .i64 0] 24 ?_; intro gb685 hg w56 hbox hb; have n4_ := Aside0.mk (hbox); have GW685 := gw HB hg; have GE685 := gw HB hg; have NB666_685 := nl BK666 hg; have NB685_666 := nr BK666 hg; have NB667_685 := nl BK667 hg; have NB685_667 := nr BK667 hg; replace HO_6 := rb HO_6 hb; replace BK666 := kb BK666 hb; replace BK667 := kb BK667 hb; replace HB := bs HB hb; have BK685 := n4_; clear n4_; clear hb hbox hg; have hnb57 := NB685_666.out; have hnc57 := NB666_685.out; have hnb58 := NB685_667.out; have hnc58 := NB667_685.out; have hcz59_0 := bc BK685 0; have hcz59_1 := bc BK685 1; have hfz59_0 := bf BK685 0; have hfz59_1 := bf BK685 1) | (refine gM (some 89) Try.func50 #[.slice A0 l0.length c0, .int .i64 t683] (epactref22_Utc.calls kj20 _ _ l0 t683 t686 t687 t688 _ ?side1 ?side2 A35.out) ?_; (case side1 => exact cb HR0 HB); (case side2 => exact HC0.out); intro w60 hb; have n0_ := Aside0.mk (Kd.R_below (by (with_reducible repeat (first | apply Kd.R_alloc | apply Kd.R_drewN | apply Kd.R_drew)); exact (Kd.R_mono (Kd.R_far (p := ⟨gb685, 1, none⟩) (Kd.R_far (p := ⟨gb685, 0, none⟩) (Kd.R_types HO_6.out BK685.out (by decide)) (fun _ hk => hk.2) (.int .i64 t683)) (fun _ hk => hk.2) (.int .i64 t684)) (fun _ h_ => h_.1))) hb); have n1_ := kf BK666 hb; have n2_ := kf BK667 hb; have n3_ := Aside0.mk (blk_below (g := gb685) (o := .cells #[.int .i64 t683, .int .i64 t684] 24 (0, 0)) (by (with_reducible repeat (first | refine blk_drewN ?_ _ | refine blk_drew ?_ | refine blk_alloc ?_ _)); refine blk_put (cs := #[.int .i64 t683, .int .i64 0]) ?_ 1 _ rfl; (with_reducible repeat (first | refine blk_drewN ?_ _ | refine blk_drew ?_ | refine blk_alloc ?_ _)); refine blk_put (cs := #[.int .i64 0, .int .i64 0]) ?_ 0 _ rfl; (with_reducible repeat (first | refine blk_drewN ?_ _ | refine blk_drew ?_ | refine blk_alloc ?_ _)); exact BK685.out) hb); replace HB := bs HB hb; clear HO_6; clear BK666; clear BK667; clear BK685; have HO_6 := n0_; have BK666 := n1_; have BK667 := n2_; have BK685 := n3_; clear n0_ n1_ n2_ n3_; (try clear hb); (try clear hb2); (try clear hk); (try clear hi); have hcz61_0 := bc BK667 0; have hcz61_1 := bc BK667 1; have hfz61_0 := bf BK667 0; have hfz61_1 := bf BK667 1))
              refine bodyPost_ret (results_ct rfl _ _ gb667 24 #[.int .i64 0, .int .i64 0] (0, 0) _ rfl (by (with_reducible repeat (first | refine blk_drewN ?_ _ | refine blk_drew ?_ | refine blk_alloc ?_ _)); refine blk_put (cs := #[.int .i64 0, .int .i64 x668001_2]) ?_ 1 _ rfl; (with_reducible repeat (first | refine blk_drewN ?_ _ | refine blk_drew ?_ | refine blk_alloc ?_ _)); refine blk_put (cs := #[.int .i64 x668000_2, .int .i64 x668001_2]) ?_ 0 _ rfl; (with_reducible repeat (first | refine blk_drewN ?_ _ | refine blk_drew ?_ | refine blk_alloc ?_ _)); exact BK667.out) Try.underlying24 rfl (by kernel_rfl)) rfl ?_
              exact fi HB
            ·rw [if_neg c30] at H
             exact absurd H (by simp)
           ·rw [if_neg c29] at H
            exact absurd H (by simp)
       ·rw [if_neg c20] at H
        exact absurd H (by simp)
      ·rw [if_neg c19] at H
       have c19b0 : decide (x7_2 < (t670.length : Int)) = false := decide_eq_false c19
       clear c19
       obtain ⟨⟨t673, t674⟩, A62, H⟩ := bnd H
       try dsimp only at H
       by_cases c63 : t674 = 0
       ·rw [if_pos c63] at H
        have c63b0 : (t674 == 0) = true := beq_iff_eq.mpr c63
        have c63b1 : (t674 != 0) = false := bne_eq_false_iff_eq.mpr c63
        clear c63
        simp only [Option.some.injEq, Prod.mk.injEq] at H
        obtain ⟨rfl, rfl, rfl⟩ := H
        obtain ⟨Ao64, co64, eo64⟩ := Kd.R_slice HO_6.out
        subst eo64
        have hnb65 := NB666_667.out
        have hnc65 := NB667_666.out
        have hcz66_0 := bc BK666 0
        have hcz66_1 := bc BK666 1
        have hfz66_0 := bf BK666 0
        have hfz66_1 := bf BK666 1
        go_wp2_with (first | (refine gM (some 102) Try.func51 #[.slice A0 l0.length c0, .int .i64 a1_0] (epactref23_Tai.calls k2 _ _ l0 a1_0 t673 t674 _ ?side1 ?side2 A62.out) ?_; (case side1 => exact cb HR0 HB); (case side2 => exact HC0.out); intro w67 hb; replace HO_6 := rb HO_6 hb; replace BK666 := kb BK666 hb; replace BK667 := kb BK667 hb; replace HB := bs HB hb; (try clear hb); have hcz68_0 := bc BK666 0; have hcz68_1 := bc BK666 1; have hfz68_0 := bf BK666 0; have hfz68_1 := bf BK666 1; have hcz69_0 := bc BK667 0; have hcz69_1 := bc BK667 1; have hfz69_0 := bf BK667 0; have hfz69_1 := bf BK667 1))
        refine bodyPost_ret (results_ct rfl _ _ gb667 24 #[.int .i64 t673, .int .i64 a1_1] (0, 0) _ rfl (by (with_reducible repeat (first | refine blk_drewN ?_ _ | refine blk_drew ?_ | refine blk_alloc ?_ _)); refine blk_put (cs := #[.int .i64 t673, .int .i64 x668001_2]) ?_ 1 _ rfl; (with_reducible repeat (first | refine blk_drewN ?_ _ | refine blk_drew ?_ | refine blk_alloc ?_ _)); refine blk_put (cs := #[.int .i64 x668000_2, .int .i64 x668001_2]) ?_ 0 _ rfl; (with_reducible repeat (first | refine blk_drewN ?_ _ | refine blk_drew ?_ | refine blk_alloc ?_ _)); exact BK667.out) Try.underlying24 rfl (by kernel_rfl)) rfl ?_
        exact fi HB
       ·rw [if_neg c63] at H
        have c63b0 : (t674 == 0) = false := beq_eq_false_iff_ne.mpr c63
        have c63b1 : (t674 != 0) = true := bne_iff_ne.mpr c63
        simp only [Option.some.injEq, Prod.mk.injEq] at H
        obtain ⟨rfl, rfl, rfl⟩ := H
        obtain ⟨Ao70, co70, eo70⟩ := Kd.R_slice HO_6.out
        subst eo70
        have hnb71 := NB666_667.out
        have hnc71 := NB667_666.out
        have hcz72_0 := bc BK666 0
        have hcz72_1 := bc BK666 1
        have hfz72_0 := bf BK666 0
        have hfz72_1 := bf BK666 1
        go_wp2_with (first | (refine gM (some 102) Try.func51 #[.slice A0 l0.length c0, .int .i64 a1_0] (epactref23_Tai.calls k2 _ _ l0 a1_0 t673 t674 _ ?side1 ?side2 A62.out) ?_; (case side1 => exact cb HR0 HB); (case side2 => exact HC0.out); intro w73 hb; replace HO_6 := rb HO_6 hb; replace BK666 := kb BK666 hb; replace BK667 := kb BK667 hb; replace HB := bs HB hb; (try clear hb); have hcz74_0 := bc BK667 0; have hcz74_1 := bc BK667 1; have hfz74_0 := bf BK667 0; have hfz74_1 := bf BK667 1))
        refine bodyPost_ret (results_ct rfl _ _ gb667 24 #[.int .i64 0, .int .i64 0] (0, 0) _ rfl (by (with_reducible repeat (first | refine blk_drewN ?_ _ | refine blk_drew ?_ | refine blk_alloc ?_ _)); refine blk_put (cs := #[.int .i64 0, .int .i64 x668001_2]) ?_ 1 _ rfl; (with_reducible repeat (first | refine blk_drewN ?_ _ | refine blk_drew ?_ | refine blk_alloc ?_ _)); refine blk_put (cs := #[.int .i64 x668000_2, .int .i64 x668001_2]) ?_ 0 _ rfl; (with_reducible repeat (first | refine blk_drewN ?_ _ | refine blk_drew ?_ | refine blk_alloc ?_ _)); exact BK667.out) Try.underlying24 rfl (by kernel_rfl)) rfl ?_
        exact fi HB

/-! ### epactref25_Less: function 20 -/
def epactref25_Less.f (a0_0 : Int) (a0_1 : Int) (a1_0 : Int) (a1_1 : Int) : Option (Bool) := if a0_0 < a1_0 then (some true) else (if a0_0 = a1_0 then (some (decide (a0_1 < a1_1))) else (some false))
set_option maxHeartbeats 8000000 in
set_option maxRecDepth 100000 in
theorem epactref25_Less.calls (a0_0 : Int) (a0_1 : Int) (a1_0 : Int) (a1_1 : Int) (r : Bool) (w : World) (h : epactref25_Less.f a0_0 a0_1 a1_0 a1_1 = some r) :
  Calls Try.prog 20 #[.agg #[.int .i64 a0_0, .int .i64 a0_1], .agg #[.int .i64 a1_0, .int .i64 a1_1]] w fun e w' => e = .returned (.bool r) ∧ Below w.heap.size w w' := by
 have hu24 := Try.underlying24
 have HB := Aside0.mk (Below.refl w.heap.size w)
 have H : (if a0_0 < a1_0 then (some true) else (if a0_0 = a1_0 then (some (decide (a0_1 < a1_1))) else (some false))) = some r := h
 clear h
 by_cases c3 : a0_0 < a1_0
 ·rw [if_pos c3] at H
  have c3b0 : decide (a0_0 < a1_0) = true := decide_eq_true c3
  clear c3
  obtain rfl := Option.some.inj H
  go_enter Try.func20, Try.ntmps20
  go_wp2_with (first | ((with_reducible refine gate_dst (N := 2) rfl ?_); refine bx 2 #[.int .i64 a0_0, .int .i64 a0_1] 24 ?_; intro gb689 hg w4 hbox hb; have n1_ := Aside0.mk (hbox); have GW689 := gw HB hg; have GE689 := gw HB hg; replace HB := bs HB hb; have BK689 := n1_; clear n1_; clear hb hbox hg) | ((with_reducible refine gate_dst (N := 3) rfl ?_); refine bx 3 #[.int .i64 a1_0, .int .i64 a1_1] 24 ?_; intro gb690 hg w5 hbox hb; have n2_ := Aside0.mk (hbox); have GW690 := gw HB hg; have GE690 := gw HB hg; have NB689_690 := nl BK689 hg; have NB690_689 := nr BK689 hg; replace BK689 := kb BK689 hb; replace HB := bs HB hb; have BK690 := n2_; clear n2_; clear hb hbox hg; have hnb6 := NB689_690.out; have hnc6 := NB690_689.out; have hcz7_0 := bc BK689 0; have hcz7_1 := bc BK689 1; have hfz7_0 := bf BK689 0; have hfz7_1 := bf BK689 1; have hcz8_0 := bc BK690 0; have hcz8_1 := bc BK690 1; have hfz8_0 := bf BK690 0; have hfz8_1 := bf BK690 1))
  go_ret
  exact fi HB
 ·rw [if_neg c3] at H
  have c3b0 : decide (a0_0 < a1_0) = false := decide_eq_false c3
  clear c3
  by_cases c9 : a0_0 = a1_0
  ·rw [if_pos c9] at H
   have c9b0 : (a0_0 == a1_0) = true := beq_iff_eq.mpr c9
   have c9b1 : (a0_0 != a1_0) = false := bne_eq_false_iff_eq.mpr c9
   clear c9
   obtain rfl := Option.some.inj H
   go_enter Try.func20, Try.ntmps20
   go_wp2_with (first | ((with_reducible refine gate_dst (N := 2) rfl ?_); refine bx 2 #[.int .i64 a0_0, .int .i64 a0_1] 24 ?_; intro gb689 hg w10 hbox hb; have n1_ := Aside0.mk (hbox); have GW689 := gw HB hg; have GE689 := gw HB hg; replace HB := bs HB hb; have BK689 := n1_; clear n1_; clear hb hbox hg) | ((with_reducible refine gate_dst (N := 3) rfl ?_); refine bx 3 #[.int .i64 a1_0, .int .i64 a1_1] 24 ?_; intro gb690 hg w11 hbox hb; have n2_ := Aside0.mk (hbox); have GW690 := gw HB hg; have GE690 := gw HB hg; have NB689_690 := nl BK689 hg; have NB690_689 := nr BK689 hg; replace BK689 := kb BK689 hb; replace HB := bs HB hb; have BK690 := n2_; clear n2_; clear hb hbox hg; have hnb12 := NB689_690.out; have hnc12 := NB690_689.out; have hcz13_0 := bc BK689 0; have hcz13_1 := bc BK689 1; have hfz13_0 := bf BK689 0; have hfz13_1 := bf BK689 1; have hcz14_0 := bc BK690 0; have hcz14_1 := bc BK690 1; have hfz14_0 := bf BK690 0; have hfz14_1 := bf BK690 1))
   go_ret
   exact fi HB
  ·rw [if_neg c9] at H
   have c9b0 : (a0_0 == a1_0) = false := beq_eq_false_iff_ne.mpr c9
   have c9b1 : (a0_0 != a1_0) = true := bne_iff_ne.mpr c9
   obtain rfl := Option.some.inj H
   go_enter Try.func20, Try.ntmps20
   go_wp2_with (first | ((with_reducible refine gate_dst (N := 2) rfl ?_); refine bx 2 #[.int .i64 a0_0, .int .i64 a0_1] 24 ?_; intro gb689 hg w15 hbox hb; have n1_ := Aside0.mk (hbox); have GW689 := gw HB hg; have GE689 := gw HB hg; replace HB := bs HB hb; have BK689 := n1_; clear n1_; clear hb hbox hg) | ((with_reducible refine gate_dst (N := 3) rfl ?_); refine bx 3 #[.int .i64 a1_0, .int .i64 a1_1] 24 ?_; intro gb690 hg w16 hbox hb; have n2_ := Aside0.mk (hbox); have GW690 := gw HB hg; have GE690 := gw HB hg; have NB689_690 := nl BK689 hg; have NB690_689 := nr BK689 hg; replace BK689 := kb BK689 hb; replace HB := bs HB hb; have BK690 := n2_; clear n2_; clear hb hbox hg; have hnb17 := NB689_690.out; have hnc17 := NB690_689.out; have hcz18_0 := bc BK689 0; have hcz18_1 := bc BK689 1; have hfz18_0 := bf BK689 0; have hfz18_1 := bf BK689 1; have hcz19_0 := bc BK690 0; have hcz19_1 := bc BK690 1; have hfz19_0 := bf BK690 0; have hfz19_1 := bf BK690 1))
   go_ret
   exact fi HB

end Go.Proofs.Ythoigncoojcanaa.PAll
