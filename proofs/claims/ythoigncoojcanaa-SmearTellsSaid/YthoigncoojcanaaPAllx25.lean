-- Written for this claim by wip/tools of this repo (after the kit's print; own contracts laid in).
import Derived.Test.YthoigncoojcanaaPAllx0
import Derived.Test.YthoigncoojcanaaShort
import Derived.Test.YthoigncoojcanaaPAllx22
import Derived.Test.YthoigncoojcanaaPAllx24
namespace Go.Proofs.Ythoigncoojcanaa.PAll
open Go.RowKit Go.Proofs.YthoigncoojcanaaW.PrintWords Go.Proofs.YthoigncoojcanaaW.PrintLast Go.Proofs.YthoigncoojcanaaW.PrintMore
attribute [local go_sem] max2_int min2_int max_two min_two max_three min_three max_four min_four   -- for this text's walks alone
set_option linter.unusedVariables false
set_option linter.unusedSimpArgs false

/-! ### epactref23_Of: function 82 -/
def epactref23_Of.f (a0 : Int) (a1 : Int) : Option (Int × Bool) := if a0 < (-719162) then (some (0, false)) else (if a0 > 2932896 then (some (0, false)) else (if a1 < 0 then (some (0, false)) else (if a1 > 86400 then (some (0, false)) else (some (wrap64 ((wrap64 (86400 * a0)) + (mn a1 86399)), true)))))
set_option maxHeartbeats 8000000 in
set_option maxRecDepth 100000 in
theorem epactref23_Of.calls (a0 : Int) (a1 : Int) (r1 : Int) (r2 : Bool) (w : World) (h : epactref23_Of.f a0 a1 = some (r1, r2)) :
  Calls Try.prog 82 #[.int .i64 a0, .int .i64 a1] w fun e w' => e = .returned (.tuple #[.int .i64 r1, .bool r2]) ∧ Below w.heap.size w w' := by
 have HB := Aside0.mk (Below.refl w.heap.size w)
 have H : (if a0 < (-719162) then (some (0, false)) else (if a0 > 2932896 then (some (0, false)) else (if a1 < 0 then (some (0, false)) else (if a1 > 86400 then (some (0, false)) else (some (wrap64 ((wrap64 (86400 * a0)) + (mn a1 86399)), true)))))) = some (r1, r2) := h
 clear h
 by_cases c3 : a0 < (-719162)
 ·rw [if_pos c3] at H
  have c3b0 : decide (a0 < (-719162)) = true := decide_eq_true c3
  clear c3
  simp only [Option.some.injEq, Prod.mk.injEq] at H
  obtain ⟨rfl, rfl⟩ := H
  go_enter Try.func82, Try.ntmps82
  go_wp2
  go_ret2
  exact fi HB
 ·rw [if_neg c3] at H
  have c3b0 : decide (a0 < (-719162)) = false := decide_eq_false c3
  clear c3
  by_cases c4 : a0 > 2932896
  ·rw [if_pos c4] at H
   have c4b0 : decide (2932896 < a0) = true := decide_eq_true c4
   clear c4
   simp only [Option.some.injEq, Prod.mk.injEq] at H
   obtain ⟨rfl, rfl⟩ := H
   go_enter Try.func82, Try.ntmps82
   go_wp2
   go_ret2
   exact fi HB
  ·rw [if_neg c4] at H
   have c4b0 : decide (2932896 < a0) = false := decide_eq_false c4
   clear c4
   by_cases c5 : a1 < 0
   ·rw [if_pos c5] at H
    have c5b0 : decide (a1 < 0) = true := decide_eq_true c5
    clear c5
    simp only [Option.some.injEq, Prod.mk.injEq] at H
    obtain ⟨rfl, rfl⟩ := H
    go_enter Try.func82, Try.ntmps82
    go_wp2
    go_ret2
    exact fi HB
   ·rw [if_neg c5] at H
    have c5b0 : decide (a1 < 0) = false := decide_eq_false c5
    clear c5
    by_cases c6 : a1 > 86400
    ·rw [if_pos c6] at H
     have c6b0 : decide (86400 < a1) = true := decide_eq_true c6
     clear c6
     simp only [Option.some.injEq, Prod.mk.injEq] at H
     obtain ⟨rfl, rfl⟩ := H
     go_enter Try.func82, Try.ntmps82
     go_wp2
     go_ret2
     exact fi HB
    ·rw [if_neg c6] at H
     have c6b0 : decide (86400 < a1) = false := decide_eq_false c6
     clear c6
     obtain ⟨ji7, hji7⟩ : ∃ j_ : Int, (mn a1 86399) = j_ := ⟨_, rfl⟩
     replace H : (some (wrap64 ((wrap64 (86400 * a0)) + (ji7)), true)) = some (r1, r2) := by first | (rw [hji7] at H; exact H) | (simp only [hji7] at H ⊢; exact H)
     (try (have hji7h : ji7 ≤ 86399 := by (rw [← hji7]; unfold mn; (repeat' split) <;> omega)))
     (try (have hji7g : ji7 ≤ 64 := by omega))
     have hji7_ : (if 86399 < a1 then 86399 else a1) = ji7 := hji7
     simp only [Option.some.injEq, Prod.mk.injEq] at H
     obtain ⟨rfl, rfl⟩ := H
     go_enter Try.func82, Try.ntmps82
     go_wp2
     go_ret2
     exact ⟨by first | rfl | (simp [errW_none, errW_some] <;> rfl) | (simp only [← hji7]; first | rfl | (simp [errW_none, errW_some] <;> rfl)) | (simp [*, errW_none, errW_some] <;> rfl), by repeat (first | (with_reducible first | exact HB.out | apply below_alloc | apply pw_below_drewN | apply below_drew1) | exact HB.out)⟩

/-! ### epactref23_From: function 52 -/
def epactref23_From.f (k : Nat) (l0 : List (S53)) (a1 : Int) : Option (Int × Int) := (epactref22_Utc.f k l0 a1).bind fun bt624 => (if bt624.2.2 = 0 then ((epactref23_Of.f bt624.1 bt624.2.1).bind fun bt627 => (some (bt627.1, 0))) else (some (0, bt624.2.2)))
theorem epactref23_From.mono : ∀ a0 a1 k, LeO (epactref23_From.f k a0 a1) (epactref23_From.f (k + 1) a0 a1) := by
 intro a0 a1 k
 unfold epactref23_From.f
 repeat' first
   | (with_reducible exact epactref22_Utc.mono _ _ _)
   | (with_reducible exact LeO.refl _)
   | (with_reducible exact LeO.none _)
   | (with_reducible refine LeO.ite ?_ ?_)
   | (with_reducible refine LeO.bind ?_ (fun _ => ?_))
set_option maxHeartbeats 8000000 in
set_option maxRecDepth 100000 in
theorem epactref23_From.calls (k : Nat) (A0 : Option Addr) (c0 : Nat) (l0 : List (S53)) (a1 : Int) (r1 : Int) (r2 : Int) (w : World) (hr0 : Kd.C k53 w A0 l0.length l0) (hc0 : l0.length ≤ c0) (h : epactref23_From.f k l0 a1 = some (r1, r2)) :
  Calls Try.prog 52 #[.slice A0 l0.length c0, .int .i64 a1] w fun e w' => e = .returned (.tuple #[.int .i64 r1, .int .i64 r2]) ∧ Below w.heap.size w w' := by
 have HR0 := Aside0.mk hr0
 have HC0 := Aside0.mk hc0
 clear hr0 hc0
 have HB := Aside0.mk (Below.refl w.heap.size w)
 have H : ((epactref22_Utc.f k l0 a1).bind fun bt624 => (if bt624.2.2 = 0 then ((epactref23_Of.f bt624.1 bt624.2.1).bind fun bt627 => (some (bt627.1, 0))) else (some (0, bt624.2.2)))) = some (r1, r2) := h
 clear h
 obtain ⟨⟨t624, t625, t626⟩, A3, H⟩ := bnd H
 try dsimp only at H
 by_cases c4 : t626 = 0
 ·rw [if_pos c4] at H
  have c4b0 : (t626 == 0) = true := beq_iff_eq.mpr c4
  have c4b1 : (t626 != 0) = false := bne_eq_false_iff_eq.mpr c4
  clear c4
  obtain ⟨⟨t627, t628⟩, A5, H⟩ := bnd H
  try dsimp only at H
  simp only [Option.some.injEq, Prod.mk.injEq] at H
  obtain ⟨rfl, rfl⟩ := H
  go_enter Try.func52, Try.ntmps52
  go_wp2_with (first | (refine gM (some 14) Try.func50 #[.slice A0 l0.length c0, .int .i64 a1] (epactref22_Utc.calls k _ _ l0 a1 t624 t625 t626 _ ?side1 ?side2 A3.out) ?_; (case side1 => exact ca HR0); (case side2 => exact HC0.out); intro w6 hb; replace HB := bs HB hb; (try clear hb)) | (refine gM (some 24) Try.func82 #[.int .i64 t624, .int .i64 t625] (epactref23_Of.calls t624 t625 t627 t628 _ A5.out) ?_; intro w7 hb; replace HB := bs HB hb; (try clear hb)))
  go_ret2
  exact fi HB
 ·rw [if_neg c4] at H
  have c4b0 : (t626 == 0) = false := beq_eq_false_iff_ne.mpr c4
  have c4b1 : (t626 != 0) = true := bne_iff_ne.mpr c4
  simp only [Option.some.injEq, Prod.mk.injEq] at H
  obtain ⟨rfl, rfl⟩ := H
  go_enter Try.func52, Try.ntmps52
  go_wp2_with (first | (refine gM (some 14) Try.func50 #[.slice A0 l0.length c0, .int .i64 a1] (epactref22_Utc.calls k _ _ l0 a1 t624 t625 t626 _ ?side1 ?side2 A3.out) ?_; (case side1 => exact ca HR0); (case side2 => exact HC0.out); intro w8 hb; replace HB := bs HB hb; (try clear hb)))
  go_ret2
  exact fi HB

/-! ### epactref25_Plain: function 18 -/
def epactref25_Plain.j0 : Nat → List (S53) → Bool → Int → Int → Option (Int × Int × Int)
 | 0, _, _, _, _ => none
 | k + 1, x0, x15, x630000, x630001 => if x15 = true then (some (0, 0, 1)) else ((epactref23_From.f k x0 x630000).bind fun bt633 => (if bt633.2 = 0 then (some (bt633.1, x630001, 0)) else (some (0, 0, bt633.2))))
def epactref25_Plain.f (k : Nat) (l0 : List (S53)) (a1_0 : Int) (a1_1 : Int) : Option (Int × Int × Int) := (epactref22_Known.f k l0).bind fun t631 => (if t631 = true then ((epactref25_tick.f a1_0 a1_1).bind fun t632 => (epactref25_Plain.j0 k l0 (!t632) a1_0 a1_1)) else (epactref25_Plain.j0 k l0 true a1_0 a1_1))
theorem epactref25_Plain.mono_l : ∀ k, (∀ y0 y1 y2 y3, LeO (epactref25_Plain.j0 k y0 y1 y2 y3) (epactref25_Plain.j0 (k + 1) y0 y1 y2 y3))
 | 0 => fun _ _ _ _ r h => by simp [epactref25_Plain.j0] at h
 | k + 1 => by
  have ih0 := epactref25_Plain.mono_l k
  ·intro y0 y1 y2 y3
   unfold epactref25_Plain.j0
   repeat' first
   | (with_reducible exact ih0 _ _ _ _)
   | (with_reducible exact epactref22_Known.mono _ _)
   | (with_reducible exact epactref23_From.mono _ _ _)
   | (with_reducible exact LeO.refl _)
   | (with_reducible exact LeO.none _)
   | (with_reducible refine LeO.ite ?_ ?_)
   | (with_reducible refine LeO.bind ?_ (fun _ => ?_))
theorem epactref25_Plain.mono : ∀ a0 a1 a2 k, LeO (epactref25_Plain.f k a0 a1 a2) (epactref25_Plain.f (k + 1) a0 a1 a2) := by
 intro a0 a1 a2 k
 have ih0 := epactref25_Plain.mono_l k
 unfold epactref25_Plain.f
 repeat' first
   | (with_reducible exact ih0 _ _ _ _)
   | (with_reducible exact epactref22_Known.mono _ _)
   | (with_reducible exact epactref23_From.mono _ _ _)
   | (with_reducible exact LeO.refl _)
   | (with_reducible exact LeO.none _)
   | (with_reducible refine LeO.ite ?_ ?_)
   | (with_reducible refine LeO.bind ?_ (fun _ => ?_))
set_option maxHeartbeats 8000000 in
set_option maxRecDepth 100000 in
theorem epactref25_Plain.calls (k : Nat) (A0 : Option Addr) (c0 : Nat) (l0 : List (S53)) (a1_0 : Int) (a1_1 : Int) (r1 : Int) (r2 : Int) (r3 : Int) (w : World) (hr0 : Kd.C k53 w A0 l0.length l0) (hc0 : l0.length ≤ c0) (h : epactref25_Plain.f k l0 a1_0 a1_1 = some (r1, r2, r3)) :
  Calls Try.prog 18 #[.slice A0 l0.length c0, .agg #[.int .i64 a1_0, .int .i64 a1_1]] w fun e w' => e = .returned (.tuple #[.agg #[.int .i64 r1, .int .i64 r2], .int .i64 r3]) ∧ Below w.heap.size w w' := by
 have hu24 := Try.underlying24
 have HR0 := Aside0.mk hr0
 have HC0 := Aside0.mk hc0
 clear hr0 hc0
 have HB := Aside0.mk (Below.refl w.heap.size w)
 have H : ((epactref22_Known.f k l0).bind fun t631 => (if t631 = true then ((epactref25_tick.f a1_0 a1_1).bind fun t632 => (epactref25_Plain.j0 k l0 (!t632) a1_0 a1_1)) else (epactref25_Plain.j0 k l0 true a1_0 a1_1))) = some (r1, r2, r3) := h
 clear h
 have HC3 := Aside0.mk H
 clear H
 go_enter Try.func18, Try.ntmps18
 go_upto_region 1 with (first | (refine bx 3 #[.int .i64 a1_0, .int .i64 a1_1] 24 ?_; intro gb629 hg w4 hbox hb; have n1_ := Aside0.mk (hbox); have GW629 := gw HB hg; have GE629 := gw HB hg; replace HB := bs HB hb; have BK629 := n1_; clear n1_; clear hb hbox hg) | (refine bx 4 #[.int .i64 0, .int .i64 0] 24 ?_; intro gb630 hg w5 hbox hb; have n2_ := Aside0.mk (hbox); have GW630 := gw HB hg; have GE630 := gw HB hg; have NB629_630 := nl BK629 hg; have NB630_629 := nr BK629 hg; replace BK629 := kb BK629 hb; replace HB := bs HB hb; have BK630 := n2_; clear n2_; clear hb hbox hg))
 (try simp only [Act.put, List.setIfInBounds_toArray, List.set_cons_zero, List.set_cons_succ])
 go_cut [15] (fun v15 wc => ∃ (kq : Nat) (x15_2 : Bool), v15 = .bool x15_2 ∧ Aside0 (epactref25_Plain.j0 kq l0 x15_2 a1_0 a1_1 = some (r1, r2, r3)) ∧ Aside0 (kq ≤ k) ∧ Aside0 (wc.heap[gb629]? = some (.cells #[.int .i64 a1_0, .int .i64 a1_1] 24 (0, 0))) ∧ Aside0 (wc.heap[gb630]? = some (.cells #[.int .i64 0, .int .i64 0] 24 (0, 0))) ∧ Aside0 (Below w.heap.size w wc))
 case first =>
  have H := HC3.out
  clear HC3
  obtain ⟨t631, A6, H⟩ := bnd H
  try dsimp only at H
  by_cases c7 : t631 = true
  ·subst c7
   rw [if_pos rfl] at H
   obtain ⟨t632, A8, H⟩ := bnd H
   try dsimp only at H
   have H' := Aside0.mk H
   clear H
   go_wp2_with (first | (refine gM (some 9) Try.func33 #[.slice A0 l0.length c0] (epactref22_Known.calls k _ _ l0 true _ ?side1 ?side2 A6.out) ?_; (case side1 => exact cb HR0 HB); (case side2 => exact HC0.out); intro w9 hb; replace BK629 := kb BK629 hb; replace BK630 := kb BK630 hb; replace HB := bs HB hb; (try clear hb); have hnb10 := NB629_630.out; have hnc10 := NB630_629.out; have hcz11_0 := bc BK629 0; have hcz11_1 := bc BK629 1; have hfz11_0 := bf BK629 0; have hfz11_1 := bf BK629 1) | (go_at_call 47; (with_reducible refine (epactref25_tick.calls a1_0 a1_1 t632 _ A8.out).mono ?_); rintro e w12 ⟨rfl, hb⟩; replace BK629 := kb BK629 hb; replace BK630 := kb BK630 hb; replace HB := bs HB hb; (try clear hb)))
   go_meet
   case rel => exact ⟨_, (!t632), pr, H', om, ka BK629, ka BK630, ba HB⟩
  ·replace c7 := Bool.eq_false_iff.mpr c7
   subst c7
   rw [if_neg (show ¬ (false = true) by decide)] at H
   have H' := Aside0.mk H
   clear H
   go_wp2_with (first | (refine gM (some 9) Try.func33 #[.slice A0 l0.length c0] (epactref22_Known.calls k _ _ l0 false _ ?side1 ?side2 A6.out) ?_; (case side1 => exact cb HR0 HB); (case side2 => exact HC0.out); intro w13 hb; replace BK629 := kb BK629 hb; replace BK630 := kb BK630 hb; replace HB := bs HB hb; (try clear hb)))
   go_meet
   case rel => exact ⟨_, (true), pr, H', om, ka BK629, ka BK630, ba HB⟩
 case rest =>
  clear HC3
  try clear c1
  try clear p2
  try clear c3
  try clear c7
  try clear c10
  try clear hcz11_0
  try clear hcz11_1
  try clear hfz11_0
  try clear hfz11_1
  obtain ⟨kq, x15_2, rfl, HA, HJ2, BK629, BK630, HB⟩ := hcut
  cases kq with
  | zero => exact absurd HA.out (by simp [epactref25_Plain.j0])
  | succ kj2 =>
   have H := HA.out
   clear HA
   simp only [epactref25_Plain.j0] at H
   by_cases c14 : x15_2 = true
   ·subst c14
    rw [if_pos rfl] at H
    simp only [Option.some.injEq, Prod.mk.injEq] at H
    obtain ⟨rfl, rfl, rfl⟩ := H
    have hnb15 := NB630_629.out
    have hnc15 := NB629_630.out
    have hcz16_0 := bc BK630 0
    have hcz16_1 := bc BK630 1
    have hfz16_0 := bf BK630 0
    have hfz16_1 := bf BK630 1
    go_wp2
    refine bodyPost_ret (results_ct rfl _ _ gb630 24 #[.int .i64 0, .int .i64 0] (0, 0) _ rfl (by (with_reducible repeat (first | refine blk_drewN ?_ _ | refine blk_drew ?_ | refine blk_alloc ?_ _)); refine blk_put (cs := #[.int .i64 0, .int .i64 0]) ?_ 1 _ rfl; (with_reducible repeat (first | refine blk_drewN ?_ _ | refine blk_drew ?_ | refine blk_alloc ?_ _)); refine blk_put (cs := #[.int .i64 0, .int .i64 0]) ?_ 0 _ rfl; (with_reducible repeat (first | refine blk_drewN ?_ _ | refine blk_drew ?_ | refine blk_alloc ?_ _)); exact BK630.out) Try.underlying24 rfl (by kernel_rfl)) rfl ?_
    exact fi HB
   ·replace c14 := Bool.eq_false_iff.mpr c14
    subst c14
    rw [if_neg (show ¬ (false = true) by decide)] at H
    obtain ⟨⟨t633, t634⟩, A17, H⟩ := bnd H
    try dsimp only at H
    by_cases c18 : t634 = 0
    ·rw [if_pos c18] at H
     have c18b0 : (t634 == 0) = true := beq_iff_eq.mpr c18
     have c18b1 : (t634 != 0) = false := bne_eq_false_iff_eq.mpr c18
     clear c18
     simp only [Option.some.injEq, Prod.mk.injEq] at H
     obtain ⟨rfl, rfl, rfl⟩ := H
     have hnb19 := NB629_630.out
     have hnc19 := NB630_629.out
     have hcz20_0 := bc BK629 0
     have hcz20_1 := bc BK629 1
     have hfz20_0 := bf BK629 0
     have hfz20_1 := bf BK629 1
     go_wp2_with (first | (refine gM (some 21) Try.func52 #[.slice A0 l0.length c0, .int .i64 a1_0] (epactref23_From.calls kj2 _ _ l0 a1_0 t633 t634 _ ?side1 ?side2 A17.out) ?_; (case side1 => exact cb HR0 HB); (case side2 => exact HC0.out); intro w21 hb; replace BK629 := kb BK629 hb; replace BK630 := kb BK630 hb; replace HB := bs HB hb; (try clear hb); have hcz22_0 := bc BK629 0; have hcz22_1 := bc BK629 1; have hfz22_0 := bf BK629 0; have hfz22_1 := bf BK629 1; have hcz23_0 := bc BK630 0; have hcz23_1 := bc BK630 1; have hfz23_0 := bf BK630 0; have hfz23_1 := bf BK630 1))
     refine bodyPost_ret (results_ct rfl _ _ gb630 24 #[.int .i64 t633, .int .i64 a1_1] (0, 0) _ rfl (by (with_reducible repeat (first | refine blk_drewN ?_ _ | refine blk_drew ?_ | refine blk_alloc ?_ _)); refine blk_put (cs := #[.int .i64 t633, .int .i64 0]) ?_ 1 _ rfl; (with_reducible repeat (first | refine blk_drewN ?_ _ | refine blk_drew ?_ | refine blk_alloc ?_ _)); refine blk_put (cs := #[.int .i64 0, .int .i64 0]) ?_ 0 _ rfl; (with_reducible repeat (first | refine blk_drewN ?_ _ | refine blk_drew ?_ | refine blk_alloc ?_ _)); exact BK630.out) Try.underlying24 rfl (by kernel_rfl)) rfl ?_
     exact fi HB
    ·rw [if_neg c18] at H
     have c18b0 : (t634 == 0) = false := beq_eq_false_iff_ne.mpr c18
     have c18b1 : (t634 != 0) = true := bne_iff_ne.mpr c18
     simp only [Option.some.injEq, Prod.mk.injEq] at H
     obtain ⟨rfl, rfl, rfl⟩ := H
     have hnb24 := NB629_630.out
     have hnc24 := NB630_629.out
     have hcz25_0 := bc BK629 0
     have hcz25_1 := bc BK629 1
     have hfz25_0 := bf BK629 0
     have hfz25_1 := bf BK629 1
     go_wp2_with (first | (refine gM (some 21) Try.func52 #[.slice A0 l0.length c0, .int .i64 a1_0] (epactref23_From.calls kj2 _ _ l0 a1_0 t633 t634 _ ?side1 ?side2 A17.out) ?_; (case side1 => exact cb HR0 HB); (case side2 => exact HC0.out); intro w26 hb; replace BK629 := kb BK629 hb; replace BK630 := kb BK630 hb; replace HB := bs HB hb; (try clear hb); have hcz27_0 := bc BK630 0; have hcz27_1 := bc BK630 1; have hfz27_0 := bf BK630 0; have hfz27_1 := bf BK630 1))
     refine bodyPost_ret (results_ct rfl _ _ gb630 24 #[.int .i64 0, .int .i64 0] (0, 0) _ rfl (by (with_reducible repeat (first | refine blk_drewN ?_ _ | refine blk_drew ?_ | refine blk_alloc ?_ _)); refine blk_put (cs := #[.int .i64 0, .int .i64 0]) ?_ 1 _ rfl; (with_reducible repeat (first | refine blk_drewN ?_ _ | refine blk_drew ?_ | refine blk_alloc ?_ _)); refine blk_put (cs := #[.int .i64 0, .int .i64 0]) ?_ 0 _ rfl; (with_reducible repeat (first | refine blk_drewN ?_ _ | refine blk_drew ?_ | refine blk_alloc ?_ _)); exact BK630.out) Try.underlying24 rfl (by kernel_rfl)) rfl ?_
     exact fi HB

/-! ### epactref02_product: function 76 -/
def epactref02_product.l0 : Nat → Int → Int → Int → Int → Int → Option (Int × Int)
 | 0, _, _, _, _, _ => none
 | k + 1, x0, x1, x6, x637000, x637001 => if x6 ≥ 0 then (if 0 ≤ x6 then (if (Go.bits .and .u64 (shr .u64 x1 x6) 1) = 1 then (if (IntKind.u64.wrap ((IntKind.u64.wrap (x637001 * 2)) + x0)) < x0 then (epactref02_product.l0 k x0 x1 (wrap64 (x6 - 1)) (IntKind.u64.wrap ((Go.bits .or .u64 (IntKind.u64.wrap (x637000 * 2)) (x637001 / 9223372036854775808)) + 1)) (IntKind.u64.wrap ((IntKind.u64.wrap (x637001 * 2)) + x0))) else (epactref02_product.l0 k x0 x1 (wrap64 (x6 - 1)) (Go.bits .or .u64 (IntKind.u64.wrap (x637000 * 2)) (x637001 / 9223372036854775808)) (IntKind.u64.wrap ((IntKind.u64.wrap (x637001 * 2)) + x0)))) else (epactref02_product.l0 k x0 x1 (wrap64 (x6 - 1)) (Go.bits .or .u64 (IntKind.u64.wrap (x637000 * 2)) (x637001 / 9223372036854775808)) (IntKind.u64.wrap (x637001 * 2)))) else (none)) else (some (x637000, x637001))
def epactref02_product.f (k : Nat) (a0 : Int) (a1 : Int) : Option (Int × Int) := epactref02_product.l0 k a0 a1 63 0 0
theorem epactref02_product.mono_l : ∀ k, (∀ y0 y1 y2 y3 y4, LeO (epactref02_product.l0 k y0 y1 y2 y3 y4) (epactref02_product.l0 (k + 1) y0 y1 y2 y3 y4))
 | 0 => fun _ _ _ _ _ r h => by simp [epactref02_product.l0] at h
 | k + 1 => by
  have ih0 := epactref02_product.mono_l k
  ·intro y0 y1 y2 y3 y4
   unfold epactref02_product.l0
   repeat' first
   | (with_reducible exact ih0 _ _ _ _ _)
   | (with_reducible exact LeO.refl _)
   | (with_reducible exact LeO.none _)
   | (with_reducible refine LeO.ite ?_ ?_)
   | (with_reducible refine LeO.bind ?_ (fun _ => ?_))
theorem epactref02_product.mono : ∀ a0 a1 k, LeO (epactref02_product.f k a0 a1) (epactref02_product.f (k + 1) a0 a1) := by
 intro a0 a1 k
 have ih0 := epactref02_product.mono_l k
 unfold epactref02_product.f
 repeat' first
   | (with_reducible exact ih0 _ _ _ _ _)
   | (with_reducible exact LeO.refl _)
   | (with_reducible exact LeO.none _)
   | (with_reducible refine LeO.ite ?_ ?_)
   | (with_reducible refine LeO.bind ?_ (fun _ => ?_))
set_option maxHeartbeats 8000000 in
set_option maxRecDepth 100000 in
theorem epactref02_product.calls (k : Nat) (a0 : Int) (a1 : Int) (r1 : Int) (r2 : Int) (w : World) (h : epactref02_product.f k a0 a1 = some (r1, r2)) :
  Calls Try.prog 76 #[.int .u64 a0, .int .u64 a1] w fun e w' => e = .returned (.agg #[.int .u64 r1, .int .u64 r2]) ∧ Below w.heap.size w w' := by
 have hu86 := Try.underlying86
 have HB := Aside0.mk (Below.refl w.heap.size w)
 have H : (epactref02_product.l0 k a0 a1 63 0 0) = some (r1, r2) := h
 clear h
 have H' := Aside0.mk H
 clear H
 go_enter Try.func76, Try.ntmps76
 go_wp2_with (first | (refine bx 4 #[.int .u64 0, .int .u64 0] 86 ?_; intro gb635 hg w3 hbox hb; have n1_ := Aside0.mk (hbox); have GW635 := gw HB hg; have GE635 := gw HB hg; replace HB := bs HB hb; have BK635 := n1_; clear n1_; clear hb hbox hg) | (refine bx 5 #[.int .u64 0, .int .u64 0] 86 ?_; intro gb636 hg w4 hbox hb; have n2_ := Aside0.mk (hbox); have GW636 := gw HB hg; have GE636 := gw HB hg; have NB635_636 := nl BK635 hg; have NB636_635 := nr BK635 hg; replace BK635 := kb BK635 hb; replace HB := bs HB hb; have BK636 := n2_; clear n2_; clear hb hbox hg))
 go_loopg [6] k (fun kq v6 w' => ∃ (x6_1 : Int) (x637000_1 : Int) (x637001_1 : Int), v6 = .int .i64 x6_1 ∧ Aside0 (epactref02_product.l0 kq a0 a1 x6_1 x637000_1 x637001_1 = some (r1, r2)) ∧ Aside0 (kq ≤ k) ∧ Aside0 (w'.heap[gb635]? = some (.cells #[.int .u64 0, .int .u64 0] 86 (0, 0))) ∧ Aside0 (w'.heap[gb636]? = some (.cells #[.int .u64 x637000_1, .int .u64 x637001_1] 86 (0, 0))) ∧ Aside0 (Below w.heap.size w w'))
 case atStart => exact ⟨(63), (0), (0), pr, H', ⟨Nat.le_refl _⟩, ka BK635, ka BK636, ba HB⟩
 case round =>
  clear H'
  try clear p2
  obtain ⟨x6_1, x637000_1, x637001_1, rfl, HA, HK1, BK635, BK636, HB⟩ := hrel
  cases gk with
  | zero => exact absurd HA.out (by simp [epactref02_product.l0])
  | succ k1 =>
   have H := HA.out
   clear HA
   simp only [epactref02_product.l0] at H
   by_cases c5 : x6_1 ≥ 0
   ·rw [if_pos c5] at H
    have c5b0 : decide (0 ≤ x6_1) = true := decide_eq_true c5
    clear c5
    by_cases c6 : 0 ≤ x6_1
    ·rw [if_pos c6] at H
     have c6b0 := eq_true c6
     have c6b1 : decide (0 ≤ x6_1) = true := decide_eq_true c6
     clear c6
     obtain ⟨ji7, hji7⟩ : ∃ j_ : Int, (shr .u64 a1 x6_1) = j_ := ⟨_, rfl⟩
     replace H : (if (Go.bits .and .u64 (ji7) 1) = 1 then (if (IntKind.u64.wrap ((IntKind.u64.wrap (x637001_1 * 2)) + a0)) < a0 then (epactref02_product.l0 k1 a0 a1 (wrap64 (x6_1 - 1)) (IntKind.u64.wrap ((Go.bits .or .u64 (IntKind.u64.wrap (x637000_1 * 2)) (x637001_1 / 9223372036854775808)) + 1)) (IntKind.u64.wrap ((IntKind.u64.wrap (x637001_1 * 2)) + a0))) else (epactref02_product.l0 k1 a0 a1 (wrap64 (x6_1 - 1)) (Go.bits .or .u64 (IntKind.u64.wrap (x637000_1 * 2)) (x637001_1 / 9223372036854775808)) (IntKind.u64.wrap ((IntKind.u64.wrap (x637001_1 * 2)) + a0)))) else (epactref02_product.l0 k1 a0 a1 (wrap64 (x6_1 - 1)) (Go.bits .or .u64 (IntKind.u64.wrap (x637000_1 * 2)) (x637001_1 / 9223372036854775808)) (IntKind.u64.wrap (x637001_1 * 2)))) = some (r1, r2) := by first | (rw [hji7] at H; exact H) | (simp only [hji7] at H ⊢; exact H)
     have hji7_ : (a1 / 2 ^ min x6_1.toNat 64) = ji7 := hji7
     have hji7z : x6_1 ≤ 64 → (a1 / 2 ^ x6_1.toNat) = ji7 := shr_small hji7
     by_cases c8 : (Go.bits .and .u64 (ji7) 1) = 1
     ·rw [if_pos c8] at H
      have c8b0 : ((Go.bits .and .u64 (ji7) 1) == 1) = true := beq_iff_eq.mpr c8
      have c8b1 : ((Go.bits .and .u64 (ji7) 1) != 1) = false := bne_eq_false_iff_eq.mpr c8
      clear c8
      by_cases c9 : (IntKind.u64.wrap ((IntKind.u64.wrap (x637001_1 * 2)) + a0)) < a0
      ·rw [if_pos c9] at H
       have c9b0 : decide ((IntKind.u64.wrap ((IntKind.u64.wrap (x637001_1 * 2)) + a0)) < a0) = true := decide_eq_true c9
       clear c9
       have H' := Aside0.mk H
       clear H
       have hnb10 := NB636_635.out
       have hnc10 := NB635_636.out
       have hcz11_0 := bc BK636 0
       have hcz11_1 := bc BK636 1
       have hfz11_0 := bf BK636 0
       have hfz11_1 := bf BK636 1
       go_wp2
       go_roundg k1
       case measure => have := HK1.out; omega
       case rel => exact ⟨(wrap64 (x6_1 - 1)), (IntKind.u64.wrap ((Go.bits .or .u64 (IntKind.u64.wrap (x637000_1 * 2)) (x637001_1 / 9223372036854775808)) + 1)), (IntKind.u64.wrap ((IntKind.u64.wrap (x637001_1 * 2)) + a0)), pr, H', ⟨by have := HK1.out; omega⟩, kg BK635, ⟨by (with_reducible repeat (first | refine blk_drewN ?_ _ | refine blk_drew ?_ | refine blk_alloc ?_ _)); refine blk_put (cs := #[.int .u64 (IntKind.u64.wrap ((Go.bits .or .u64 (IntKind.u64.wrap (x637000_1 * 2)) (x637001_1 / 9223372036854775808)) + 1)), .int .u64 (IntKind.u64.wrap (x637001_1 * 2))]) ?_ 1 _ rfl; (with_reducible repeat (first | refine blk_drewN ?_ _ | refine blk_drew ?_ | refine blk_alloc ?_ _)); refine blk_put (cs := #[.int .u64 (Go.bits .or .u64 (IntKind.u64.wrap (x637000_1 * 2)) (x637001_1 / 9223372036854775808)), .int .u64 (IntKind.u64.wrap (x637001_1 * 2))]) ?_ 0 _ rfl; (with_reducible repeat (first | refine blk_drewN ?_ _ | refine blk_drew ?_ | refine blk_alloc ?_ _)); refine blk_put (cs := #[.int .u64 (Go.bits .or .u64 (IntKind.u64.wrap (x637000_1 * 2)) (x637001_1 / 9223372036854775808)), .int .u64 x637001_1]) ?_ 1 _ rfl; (with_reducible repeat (first | refine blk_drewN ?_ _ | refine blk_drew ?_ | refine blk_alloc ?_ _)); refine blk_put (cs := #[.int .u64 x637000_1, .int .u64 x637001_1]) ?_ 0 _ rfl; (with_reducible repeat (first | refine blk_drewN ?_ _ | refine blk_drew ?_ | refine blk_alloc ?_ _)); exact BK636.out⟩, ba HB⟩
      ·rw [if_neg c9] at H
       have c9b0 : decide ((IntKind.u64.wrap ((IntKind.u64.wrap (x637001_1 * 2)) + a0)) < a0) = false := decide_eq_false c9
       clear c9
       have H' := Aside0.mk H
       clear H
       have hnb12 := NB636_635.out
       have hnc12 := NB635_636.out
       have hcz13_0 := bc BK636 0
       have hcz13_1 := bc BK636 1
       have hfz13_0 := bf BK636 0
       have hfz13_1 := bf BK636 1
       go_wp2
       go_roundg k1
       case measure => have := HK1.out; omega
       case rel => exact ⟨(wrap64 (x6_1 - 1)), (Go.bits .or .u64 (IntKind.u64.wrap (x637000_1 * 2)) (x637001_1 / 9223372036854775808)), (IntKind.u64.wrap ((IntKind.u64.wrap (x637001_1 * 2)) + a0)), pr, H', ⟨by have := HK1.out; omega⟩, kg BK635, ⟨by (with_reducible repeat (first | refine blk_drewN ?_ _ | refine blk_drew ?_ | refine blk_alloc ?_ _)); refine blk_put (cs := #[.int .u64 (Go.bits .or .u64 (IntKind.u64.wrap (x637000_1 * 2)) (x637001_1 / 9223372036854775808)), .int .u64 (IntKind.u64.wrap (x637001_1 * 2))]) ?_ 1 _ rfl; (with_reducible repeat (first | refine blk_drewN ?_ _ | refine blk_drew ?_ | refine blk_alloc ?_ _)); refine blk_put (cs := #[.int .u64 (Go.bits .or .u64 (IntKind.u64.wrap (x637000_1 * 2)) (x637001_1 / 9223372036854775808)), .int .u64 x637001_1]) ?_ 1 _ rfl; (with_reducible repeat (first | refine blk_drewN ?_ _ | refine blk_drew ?_ | refine blk_alloc ?_ _)); refine blk_put (cs := #[.int .u64 x637000_1, .int .u64 x637001_1]) ?_ 0 _ rfl; (with_reducible repeat (first | refine blk_drewN ?_ _ | refine blk_drew ?_ | refine blk_alloc ?_ _)); exact BK636.out⟩, ba HB⟩
     ·rw [if_neg c8] at H
      have c8b0 : ((Go.bits .and .u64 (ji7) 1) == 1) = false := beq_eq_false_iff_ne.mpr c8
      have c8b1 : ((Go.bits .and .u64 (ji7) 1) != 1) = true := bne_iff_ne.mpr c8
      have H' := Aside0.mk H
      clear H
      have hnb14 := NB636_635.out
      have hnc14 := NB635_636.out
      have hcz15_0 := bc BK636 0
      have hcz15_1 := bc BK636 1
      have hfz15_0 := bf BK636 0
      have hfz15_1 := bf BK636 1
      go_wp2
      go_roundg k1
      case measure => have := HK1.out; omega
      case rel => exact ⟨(wrap64 (x6_1 - 1)), (Go.bits .or .u64 (IntKind.u64.wrap (x637000_1 * 2)) (x637001_1 / 9223372036854775808)), (IntKind.u64.wrap (x637001_1 * 2)), pr, H', ⟨by have := HK1.out; omega⟩, kg BK635, ⟨by (with_reducible repeat (first | refine blk_drewN ?_ _ | refine blk_drew ?_ | refine blk_alloc ?_ _)); refine blk_put (cs := #[.int .u64 (Go.bits .or .u64 (IntKind.u64.wrap (x637000_1 * 2)) (x637001_1 / 9223372036854775808)), .int .u64 x637001_1]) ?_ 1 _ rfl; (with_reducible repeat (first | refine blk_drewN ?_ _ | refine blk_drew ?_ | refine blk_alloc ?_ _)); refine blk_put (cs := #[.int .u64 x637000_1, .int .u64 x637001_1]) ?_ 0 _ rfl; (with_reducible repeat (first | refine blk_drewN ?_ _ | refine blk_drew ?_ | refine blk_alloc ?_ _)); exact BK636.out⟩, ba HB⟩
    ·rw [if_neg c6] at H
     exact absurd H (by simp)
   ·rw [if_neg c5] at H
    have c5b0 : decide (0 ≤ x6_1) = false := decide_eq_false c5
    clear c5
    simp only [Option.some.injEq, Prod.mk.injEq] at H
    obtain ⟨rfl, rfl⟩ := H
    have hnb16 := NB636_635.out
    have hnc16 := NB635_636.out
    have hcz17_0 := bc BK636 0
    have hcz17_1 := bc BK636 1
    have hfz17_0 := bf BK636 0
    have hfz17_1 := bf BK636 1
    have hcz18_0 := bc BK635 0
    have hcz18_1 := bc BK635 1
    have hfz18_0 := bf BK635 0
    have hfz18_1 := bf BK635 1
    go_wp2
    refine bodyPost_ret (results_cell_row rfl _ _ gb635 86 #[.int .u64 x637000_1, .int .u64 x637001_1] (0, 0) _ rfl (by (with_reducible repeat (first | refine blk_drewN ?_ _ | refine blk_drew ?_ | refine blk_alloc ?_ _)); refine blk_put (cs := #[.int .u64 x637000_1, .int .u64 0]) ?_ 1 _ rfl; (with_reducible repeat (first | refine blk_drewN ?_ _ | refine blk_drew ?_ | refine blk_alloc ?_ _)); refine blk_put (cs := #[.int .u64 0, .int .u64 0]) ?_ 0 _ rfl; (with_reducible repeat (first | refine blk_drewN ?_ _ | refine blk_drew ?_ | refine blk_alloc ?_ _)); exact BK635.out) Try.underlying86 rfl (by kernel_rfl)) rfl ?_
    exact fi HB

/-! ### epactref02_MulDiv: function 41 -/
mutual
def epactref02_MulDiv.j0 : Nat → Int → Int → Int → Bool → Option (Int × Int × Bool)
 | 0, _, _, _, _ => none
 | k + 1, x0, x1, x2, x24 => if x24 = true then (some (0, 0, false)) else ((epactref02_product.f k (IntKind.u64.wrap (x0)) (IntKind.u64.wrap (x1))).bind fun bt637 => (epactref02_MulDiv.l0 k x2 0 0 127 bt637.1 bt637.2))
def epactref02_MulDiv.l0 : Nat → Int → Int → Int → Int → Int → Int → Option (Int × Int × Bool)
 | 0, _, _, _, _, _, _ => none
 | k + 1, x2, x10, x11, x12, x640000, x640001 => if x12 ≥ 0 then (if (Go.bits .or .u64 (IntKind.u64.wrap (x11 * 2)) (x640000 / 9223372036854775808)) ≥ (IntKind.u64.wrap (x2)) then (if (x10 / 4611686018427387904) = 0 then (epactref02_MulDiv.l0 k x2 (Go.bits .or .u64 (IntKind.u64.wrap (x10 * 2)) 1) (IntKind.u64.wrap ((Go.bits .or .u64 (IntKind.u64.wrap (x11 * 2)) (x640000 / 9223372036854775808)) - (IntKind.u64.wrap (x2)))) (wrap64 (x12 - 1)) (Go.bits .or .u64 (IntKind.u64.wrap (x640000 * 2)) (x640001 / 9223372036854775808)) (IntKind.u64.wrap (x640001 * 2))) else (some (0, 0, false))) else (if (x10 / 4611686018427387904) = 0 then (epactref02_MulDiv.l0 k x2 (Go.bits .or .u64 (IntKind.u64.wrap (x10 * 2)) 0) (Go.bits .or .u64 (IntKind.u64.wrap (x11 * 2)) (x640000 / 9223372036854775808)) (wrap64 (x12 - 1)) (Go.bits .or .u64 (IntKind.u64.wrap (x640000 * 2)) (x640001 / 9223372036854775808)) (IntKind.u64.wrap (x640001 * 2))) else (some (0, 0, false)))) else (some (wrap64 (x10), wrap64 (x11), true))
end
def epactref02_MulDiv.f (k : Nat) (a0 : Int) (a1 : Int) (a2 : Int) : Option (Int × Int × Bool) := if a0 < 0 then (epactref02_MulDiv.j0 k a0 a1 a2 true) else (if a1 < 0 then (epactref02_MulDiv.j0 k a0 a1 a2 true) else (epactref02_MulDiv.j0 k a0 a1 a2 (decide (a2 < 1))))
theorem epactref02_MulDiv.mono_l : ∀ k, (∀ y0 y1 y2 y3, LeO (epactref02_MulDiv.j0 k y0 y1 y2 y3) (epactref02_MulDiv.j0 (k + 1) y0 y1 y2 y3)) ∧ (∀ y0 y1 y2 y3 y4 y5, LeO (epactref02_MulDiv.l0 k y0 y1 y2 y3 y4 y5) (epactref02_MulDiv.l0 (k + 1) y0 y1 y2 y3 y4 y5))
 | 0 => ⟨fun _ _ _ _ r h => by simp [epactref02_MulDiv.j0] at h, fun _ _ _ _ _ _ r h => by simp [epactref02_MulDiv.l0] at h⟩
 | k + 1 => by
  obtain ⟨ih0, ih1⟩ := epactref02_MulDiv.mono_l k
  refine ⟨?_, ?_⟩
  ·intro y0 y1 y2 y3
   unfold epactref02_MulDiv.j0
   repeat' first
   | (with_reducible exact ih0 _ _ _ _)
   | (with_reducible exact ih1 _ _ _ _ _ _)
   | (with_reducible exact epactref02_product.mono _ _ _)
   | (with_reducible exact LeO.refl _)
   | (with_reducible exact LeO.none _)
   | (with_reducible refine LeO.ite ?_ ?_)
   | (with_reducible refine LeO.bind ?_ (fun _ => ?_))
  ·intro y0 y1 y2 y3 y4 y5
   unfold epactref02_MulDiv.l0
   repeat' first
   | (with_reducible exact ih0 _ _ _ _)
   | (with_reducible exact ih1 _ _ _ _ _ _)
   | (with_reducible exact epactref02_product.mono _ _ _)
   | (with_reducible exact LeO.refl _)
   | (with_reducible exact LeO.none _)
   | (with_reducible refine LeO.ite ?_ ?_)
   | (with_reducible refine LeO.bind ?_ (fun _ => ?_))
theorem epactref02_MulDiv.mono : ∀ a0 a1 a2 k, LeO (epactref02_MulDiv.f k a0 a1 a2) (epactref02_MulDiv.f (k + 1) a0 a1 a2) := by
 intro a0 a1 a2 k
 obtain ⟨ih0, ih1⟩ := epactref02_MulDiv.mono_l k
 unfold epactref02_MulDiv.f
 repeat' first
   | (with_reducible exact ih0 _ _ _ _)
   | (with_reducible exact ih1 _ _ _ _ _ _)
   | (with_reducible exact epactref02_product.mono _ _ _)
   | (with_reducible exact LeO.refl _)
   | (with_reducible exact LeO.none _)
   | (with_reducible refine LeO.ite ?_ ?_)
   | (with_reducible refine LeO.bind ?_ (fun _ => ?_))
set_option maxHeartbeats 8000000 in
set_option maxRecDepth 100000 in
theorem epactref02_MulDiv.calls (k : Nat) (a0 : Int) (a1 : Int) (a2 : Int) (r1 : Int) (r2 : Int) (r3 : Bool) (w : World) (h : epactref02_MulDiv.f k a0 a1 a2 = some (r1, r2, r3)) :
  Calls Try.prog 41 #[.int .i64 a0, .int .i64 a1, .int .i64 a2] w fun e w' => e = .returned (.tuple #[.int .i64 r1, .int .i64 r2, .bool r3]) ∧ Below w.heap.size w w' := by
 have hu86 := Try.underlying86
 have HB := Aside0.mk (Below.refl w.heap.size w)
 have H : (if a0 < 0 then (epactref02_MulDiv.j0 k a0 a1 a2 true) else (if a1 < 0 then (epactref02_MulDiv.j0 k a0 a1 a2 true) else (epactref02_MulDiv.j0 k a0 a1 a2 (decide (a2 < 1))))) = some (r1, r2, r3) := h
 clear h
 have HC4 := Aside0.mk H
 clear H
 go_enter Try.func41, Try.ntmps41
 go_upto_region 1 with (fail)
 go_cut [24] (fun v24 wc => ∃ (kq : Nat) (x24_3 : Bool), v24 = .bool x24_3 ∧ Aside0 (epactref02_MulDiv.j0 kq a0 a1 a2 x24_3 = some (r1, r2, r3)) ∧ Aside0 (kq ≤ k) ∧ Aside0 (Below w.heap.size w wc))
 case first =>
  have H := HC4.out
  clear HC4
  by_cases c5 : a0 < 0
  ·rw [if_pos c5] at H
   have c5b0 : decide (a0 < 0) = true := decide_eq_true c5
   clear c5
   (first | rw [c5b0] | (simp only [i64_w, i32_w]; rw [c5b0]) | skip)
   have H' := Aside0.mk H
   clear H
   go_wp2
   go_meet
   case rel => exact ⟨_, (true), pr, H', om, ba HB⟩
  ·rw [if_neg c5] at H
   have c5b0 : decide (a0 < 0) = false := decide_eq_false c5
   clear c5
   (first | rw [c5b0] | (simp only [i64_w, i32_w]; rw [c5b0]) | skip)
   by_cases c6 : a1 < 0
   ·rw [if_pos c6] at H
    have c6b0 : decide (a1 < 0) = true := decide_eq_true c6
    clear c6
    have H' := Aside0.mk H
    clear H
    go_wp2
    go_meet
    case rel => exact ⟨_, (true), pr, H', om, ba HB⟩
   ·rw [if_neg c6] at H
    have c6b0 : decide (a1 < 0) = false := decide_eq_false c6
    clear c6
    have H' := Aside0.mk H
    clear H
    go_wp2
    go_meet
    case rel => exact ⟨_, (decide (a2 < 1)), pr, H', om, ba HB⟩
 case rest =>
  clear HC4
  try clear p2
  try clear c4
  try clear c5
  try clear c5b0
  try clear c6
  try clear c6b0
  obtain ⟨kq, x24_3, rfl, HA, HJ3, HB⟩ := hcut
  cases kq with
  | zero => exact absurd HA.out (by simp [epactref02_MulDiv.j0])
  | succ kj3 =>
   have H := HA.out
   clear HA
   simp only [epactref02_MulDiv.j0] at H
   by_cases c7 : x24_3 = true
   ·subst c7
    rw [if_pos rfl] at H
    simp only [Option.some.injEq, Prod.mk.injEq] at H
    obtain ⟨rfl, rfl, rfl⟩ := H
    go_wp2
    go_ret3
    exact fi HB
   ·replace c7 := Bool.eq_false_iff.mpr c7
    subst c7
    rw [if_neg (show ¬ (false = true) by decide)] at H
    obtain ⟨⟨t637, t638⟩, A8, H⟩ := bnd H
    try dsimp only at H
    have H' := Aside0.mk H
    clear H
    go_wp2_with (first | (refine gM (some 29) Try.func76 #[.int .u64 (IntKind.u64.wrap (a0)), .int .u64 (IntKind.u64.wrap (a1))] (epactref02_product.calls kj3 (IntKind.u64.wrap (a0)) (IntKind.u64.wrap (a1)) t637 t638 _ A8.out) ?_; intro w9 hb; replace HB := bs HB hb; (try clear hb)) | (refine bx 9 #[.int .u64 0, .int .u64 0] 86 ?_; intro gb639 hg w10 hbox hb; have n1_ := Aside0.mk (hbox); have GW639 := gw HB hg; have GE639 := gw HB hg; replace HB := bs HB hb; have BK639 := n1_; clear n1_; clear hb hbox hg; have hcz11_0 := bc BK639 0; have hcz11_1 := bc BK639 1; have hfz11_0 := bf BK639 0; have hfz11_1 := bf BK639 1))
    go_loopg [10, 11, 12] kj3 (fun kq v10 v11 v12 w' => ∃ (x10_2 : Int) (x11_2 : Int) (x12_2 : Int) (x640000_2 : Int) (x640001_2 : Int), v10 = .int .u64 x10_2 ∧ v11 = .int .u64 x11_2 ∧ v12 = .int .i64 x12_2 ∧ Aside0 (epactref02_MulDiv.l0 kq a2 x10_2 x11_2 x12_2 x640000_2 x640001_2 = some (r1, r2, r3)) ∧ Aside0 (kq ≤ kj3) ∧ Aside0 (w'.heap[gb639]? = some (.cells #[.int .u64 x640000_2, .int .u64 x640001_2] 86 (0, 0))) ∧ Aside0 (Below w.heap.size w w'))
    case atStart => exact ⟨(0), (0), (127), (t637), (t638), pr, pr, pr, H', ⟨Nat.le_refl _⟩, ⟨by (with_reducible repeat (first | refine blk_drewN ?_ _ | refine blk_drew ?_ | refine blk_alloc ?_ _)); refine blk_put (cs := #[.int .u64 t637, .int .u64 0]) ?_ 1 _ rfl; (with_reducible repeat (first | refine blk_drewN ?_ _ | refine blk_drew ?_ | refine blk_alloc ?_ _)); refine blk_put (cs := #[.int .u64 0, .int .u64 0]) ?_ 0 _ rfl; (with_reducible repeat (first | refine blk_drewN ?_ _ | refine blk_drew ?_ | refine blk_alloc ?_ _)); exact BK639.out⟩, ba HB⟩
    case round =>
     clear H'
     try clear p2
     try clear c4
     try clear c5
     try clear c5b0
     try clear c6
     try clear c6b0
     try clear c7
     try clear hcz11_0
     try clear hcz11_1
     try clear hfz11_0
     try clear hfz11_1
     try clear p2
     obtain ⟨x10_2, x11_2, x12_2, x640000_2, x640001_2, rfl, rfl, rfl, HA, HK2, BK639, HB⟩ := hrel
     cases gk with
     | zero => exact absurd HA.out (by simp [epactref02_MulDiv.l0])
     | succ k2 =>
      have H := HA.out
      clear HA
      simp only [epactref02_MulDiv.l0] at H
      by_cases c12 : x12_2 ≥ 0
      ·rw [if_pos c12] at H
       have c12b0 : decide (0 ≤ x12_2) = true := decide_eq_true c12
       clear c12
       by_cases c13 : (Go.bits .or .u64 (IntKind.u64.wrap (x11_2 * 2)) (x640000_2 / 9223372036854775808)) ≥ (IntKind.u64.wrap (a2))
       ·rw [if_pos c13] at H
        have c13b0 : decide ((IntKind.u64.wrap (a2)) ≤ (Go.bits .or .u64 (IntKind.u64.wrap (x11_2 * 2)) (x640000_2 / 9223372036854775808))) = true := decide_eq_true c13
        clear c13
        by_cases c14 : (x10_2 / 4611686018427387904) = 0
        ·rw [if_pos c14] at H
         have c14b0 : ((x10_2 / 4611686018427387904) == 0) = true := beq_iff_eq.mpr c14
         have c14b1 : ((x10_2 / 4611686018427387904) != 0) = false := bne_eq_false_iff_eq.mpr c14
         clear c14
         have H' := Aside0.mk H
         clear H
         have hcz15_0 := bc BK639 0
         have hcz15_1 := bc BK639 1
         have hfz15_0 := bf BK639 0
         have hfz15_1 := bf BK639 1
         go_wp2
         go_roundg k2
         case measure => have := HJ3.out; have := HK2.out; omega
         case rel => exact ⟨(Go.bits .or .u64 (IntKind.u64.wrap (x10_2 * 2)) 1), (IntKind.u64.wrap ((Go.bits .or .u64 (IntKind.u64.wrap (x11_2 * 2)) (x640000_2 / 9223372036854775808)) - (IntKind.u64.wrap (a2)))), (wrap64 (x12_2 - 1)), (Go.bits .or .u64 (IntKind.u64.wrap (x640000_2 * 2)) (x640001_2 / 9223372036854775808)), (IntKind.u64.wrap (x640001_2 * 2)), pr, pr, pr, H', ⟨by have := HJ3.out; have := HK2.out; omega⟩, ⟨by (with_reducible repeat (first | refine blk_drewN ?_ _ | refine blk_drew ?_ | refine blk_alloc ?_ _)); refine blk_put (cs := #[.int .u64 (Go.bits .or .u64 (IntKind.u64.wrap (x640000_2 * 2)) (x640001_2 / 9223372036854775808)), .int .u64 x640001_2]) ?_ 1 _ rfl; (with_reducible repeat (first | refine blk_drewN ?_ _ | refine blk_drew ?_ | refine blk_alloc ?_ _)); refine blk_put (cs := #[.int .u64 x640000_2, .int .u64 x640001_2]) ?_ 0 _ rfl; (with_reducible repeat (first | refine blk_drewN ?_ _ | refine blk_drew ?_ | refine blk_alloc ?_ _)); exact BK639.out⟩, ba HB⟩
        ·rw [if_neg c14] at H
         have c14b0 : ((x10_2 / 4611686018427387904) == 0) = false := beq_eq_false_iff_ne.mpr c14
         have c14b1 : ((x10_2 / 4611686018427387904) != 0) = true := bne_iff_ne.mpr c14
         simp only [Option.some.injEq, Prod.mk.injEq] at H
         obtain ⟨rfl, rfl, rfl⟩ := H
         have hcz16_0 := bc BK639 0
         have hcz16_1 := bc BK639 1
         have hfz16_0 := bf BK639 0
         have hfz16_1 := bf BK639 1
         go_wp2
         go_ret3
         exact fi HB
       ·rw [if_neg c13] at H
        have c13b0 : decide ((IntKind.u64.wrap (a2)) ≤ (Go.bits .or .u64 (IntKind.u64.wrap (x11_2 * 2)) (x640000_2 / 9223372036854775808))) = false := decide_eq_false c13
        clear c13
        by_cases c17 : (x10_2 / 4611686018427387904) = 0
        ·rw [if_pos c17] at H
         have c17b0 : ((x10_2 / 4611686018427387904) == 0) = true := beq_iff_eq.mpr c17
         have c17b1 : ((x10_2 / 4611686018427387904) != 0) = false := bne_eq_false_iff_eq.mpr c17
         clear c17
         have H' := Aside0.mk H
         clear H
         have hcz18_0 := bc BK639 0
         have hcz18_1 := bc BK639 1
         have hfz18_0 := bf BK639 0
         have hfz18_1 := bf BK639 1
         go_wp2
         go_roundg k2
         case measure => have := HJ3.out; have := HK2.out; omega
         case rel => exact ⟨(Go.bits .or .u64 (IntKind.u64.wrap (x10_2 * 2)) 0), (Go.bits .or .u64 (IntKind.u64.wrap (x11_2 * 2)) (x640000_2 / 9223372036854775808)), (wrap64 (x12_2 - 1)), (Go.bits .or .u64 (IntKind.u64.wrap (x640000_2 * 2)) (x640001_2 / 9223372036854775808)), (IntKind.u64.wrap (x640001_2 * 2)), pr, pr, pr, H', ⟨by have := HJ3.out; have := HK2.out; omega⟩, ⟨by (with_reducible repeat (first | refine blk_drewN ?_ _ | refine blk_drew ?_ | refine blk_alloc ?_ _)); refine blk_put (cs := #[.int .u64 (Go.bits .or .u64 (IntKind.u64.wrap (x640000_2 * 2)) (x640001_2 / 9223372036854775808)), .int .u64 x640001_2]) ?_ 1 _ rfl; (with_reducible repeat (first | refine blk_drewN ?_ _ | refine blk_drew ?_ | refine blk_alloc ?_ _)); refine blk_put (cs := #[.int .u64 x640000_2, .int .u64 x640001_2]) ?_ 0 _ rfl; (with_reducible repeat (first | refine blk_drewN ?_ _ | refine blk_drew ?_ | refine blk_alloc ?_ _)); exact BK639.out⟩, ba HB⟩
        ·rw [if_neg c17] at H
         have c17b0 : ((x10_2 / 4611686018427387904) == 0) = false := beq_eq_false_iff_ne.mpr c17
         have c17b1 : ((x10_2 / 4611686018427387904) != 0) = true := bne_iff_ne.mpr c17
         simp only [Option.some.injEq, Prod.mk.injEq] at H
         obtain ⟨rfl, rfl, rfl⟩ := H
         have hcz19_0 := bc BK639 0
         have hcz19_1 := bc BK639 1
         have hfz19_0 := bf BK639 0
         have hfz19_1 := bf BK639 1
         go_wp2
         go_ret3
         exact fi HB
      ·rw [if_neg c12] at H
       have c12b0 : decide (0 ≤ x12_2) = false := decide_eq_false c12
       clear c12
       simp only [Option.some.injEq, Prod.mk.injEq] at H
       obtain ⟨rfl, rfl, rfl⟩ := H
       go_wp2
       go_ret3
       exact fi HB

/-! ### epactref25_behind: function 42 -/
def epactref25_behind.f (a0 : Int) (a1 : Int) : Option (Int × Int) := some (wrap64 (a0 + (wrap64 (Int.tdiv a1 1000000000))), Int.tmod a1 1000000000)
set_option maxHeartbeats 8000000 in
set_option maxRecDepth 100000 in
theorem epactref25_behind.calls (a0 : Int) (a1 : Int) (r1 : Int) (r2 : Int) (w : World) (h : epactref25_behind.f a0 a1 = some (r1, r2)) :
  Calls Try.prog 42 #[.int .i64 a0, .int .i64 a1] w fun e w' => e = .returned (.agg #[.int .i64 r1, .int .i64 r2]) ∧ Below w.heap.size w w' := by
 have hu24 := Try.underlying24
 have HB := Aside0.mk (Below.refl w.heap.size w)
 have H : (some (wrap64 (a0 + (wrap64 (Int.tdiv a1 1000000000))), Int.tmod a1 1000000000)) = some (r1, r2) := h
 clear h
 simp only [Option.some.injEq, Prod.mk.injEq] at H
 obtain ⟨rfl, rfl⟩ := H
 go_enter Try.func42, Try.ntmps42
 go_wp2_with (first | (refine bx 4 #[.int .i64 0, .int .i64 0] 24 ?_; intro gb640 hg w3 hbox hb; have n1_ := Aside0.mk (hbox); have GW640 := gw HB hg; have GE640 := gw HB hg; replace HB := bs HB hb; have BK640 := n1_; clear n1_; clear hb hbox hg; have hcz4_0 := bc BK640 0; have hcz4_1 := bc BK640 1; have hfz4_0 := bf BK640 0; have hfz4_1 := bf BK640 1))
 refine bodyPost_ret (results_cell_row rfl _ _ gb640 24 #[.int .i64 (wrap64 (a0 + (wrap64 (Int.tdiv a1 1000000000)))), .int .i64 (Int.tmod a1 1000000000)] (0, 0) _ rfl (by (with_reducible repeat (first | refine blk_drewN ?_ _ | refine blk_drew ?_ | refine blk_alloc ?_ _)); refine blk_put (cs := #[.int .i64 (wrap64 (a0 + (wrap64 (Int.tdiv a1 1000000000)))), .int .i64 0]) ?_ 1 _ rfl; (with_reducible repeat (first | refine blk_drewN ?_ _ | refine blk_drew ?_ | refine blk_alloc ?_ _)); refine blk_put (cs := #[.int .i64 0, .int .i64 0]) ?_ 0 _ rfl; (with_reducible repeat (first | refine blk_drewN ?_ _ | refine blk_drew ?_ | refine blk_alloc ?_ _)); exact BK640.out) Try.underlying24 rfl (by kernel_rfl)) rfl ?_
 exact fi HB

end Go.Proofs.Ythoigncoojcanaa.PAll
