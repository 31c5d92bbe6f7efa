-- Written for this claim by wip/tools of this repo (after the kit's print; own contracts laid in).
import Derived.Test.YthoigncoojcanaaPAllx0
import Derived.Test.YthoigncoojcanaaShort
import Derived.Test.YthoigncoojcanaaPAllx19
import Derived.Test.YthoigncoojcanaaPAllx23
import Derived.Test.YthoigncoojcanaaPAllx24
import Derived.Test.YthoigncoojcanaaPAllx25
namespace Go.Proofs.Ythoigncoojcanaa.PAll
open Go.RowKit Go.Proofs.YthoigncoojcanaaW.PrintWords Go.Proofs.YthoigncoojcanaaW.PrintLast Go.Proofs.YthoigncoojcanaaW.PrintMore
attribute [local go_sem] max2_int min2_int max_two min_two max_three min_three max_four min_four   -- for this text's walks alone
set_option linter.unusedVariables false
set_option linter.unusedSimpArgs false

/-! ### epactref25_Smear: function 14 -/
def epactref25_Smear.f (k : Nat) (l0 : List (S53)) (a1_0 : Int) (a1_1 : Int) : Option (Int × Int × Int) := (epactref25_Plain.f k l0 a1_0 a1_1).bind fun bt643 => (if bt643.2.2 = 0 then ((epactref25_place.f k l0 a1_0).bind fun t647 => (if t647 < 0 then (some (bt643.1, bt643.2.1, 0)) else ((epactref22_Length.f k l0 t647).bind fun bt648 => ((epactref25_noon.f k l0 t647).bind fun t650 => ((epactref02_MulDiv.f k (wrap64 ((wrap64 ((wrap64 (a1_0 - t650)) * 1000000000)) + a1_1)) 86400 bt648.1).bind fun bt651 => ((epactref25_behind.f (wrap64 ((wrap64 (86400 * t647)) + 43200)) bt651.1).bind fun bt654 => (some (bt654.1, bt654.2, 0)))))))) else (some (0, 0, bt643.2.2)))
theorem epactref25_Smear.mono : ∀ a0 a1 a2 k, LeO (epactref25_Smear.f k a0 a1 a2) (epactref25_Smear.f (k + 1) a0 a1 a2) := by
 intro a0 a1 a2 k
 unfold epactref25_Smear.f
 repeat' first
   | (with_reducible exact epactref02_MulDiv.mono _ _ _ _)
   | (with_reducible exact epactref22_Length.mono _ _ _)
   | (with_reducible exact epactref25_Plain.mono _ _ _ _)
   | (with_reducible exact epactref25_noon.mono _ _ _)
   | (with_reducible exact epactref25_place.mono _ _ _)
   | (with_reducible exact LeO.refl _)
   | (with_reducible exact LeO.none _)
   | (with_reducible refine LeO.ite ?_ ?_)
   | (with_reducible refine LeO.bind ?_ (fun _ => ?_))
def epactref25_Smear.T8 : Bool × List (List Nat × List Nat) := (true, [([], []), ([0], [0]), ([], []), ([], []), ([2, 3], [2, 3]), ([1, 4], [1, 4]), ([5], [5]), ([], []), ([7], [7]), ([6, 8], [6, 8]), ([9, 4, 0, 1, 2, 3, 4, 5, 6, 7, 8, 9], [9])])
def epactref25_Smear.B8 : List Nat := [0, 1, 0, 0, 12, 31, 63, 0, 128, 511, 1023]
theorem epactref25_Smear.tab8 : rtab .any (opsOf Try.f14 8) = epactref25_Smear.T8 := by kernel_rfl
theorem epactref25_Smear.bits8 : waitsOk epactref25_Smear.T8.2 epactref25_Smear.B8 = true := by kernel_rfl
set_option maxHeartbeats 8000000 in
set_option maxRecDepth 100000 in
theorem epactref25_Smear.calls (k : Nat) (A0 : Option Addr) (c0 : Nat) (l0 : List (S53)) (a1_0 : Int) (a1_1 : Int) (r1 : Int) (r2 : Int) (r3 : Int) (w : World) (hr0 : Kd.C k53 w A0 l0.length l0) (hc0 : l0.length ≤ c0) (h : epactref25_Smear.f k l0 a1_0 a1_1 = some (r1, r2, r3)) :
  Calls Try.prog 14 #[.slice A0 l0.length c0, .agg #[.int .i64 a1_0, .int .i64 a1_1]] w fun e w' => e = .returned (.tuple #[.agg #[.int .i64 r1, .int .i64 r2], .int .i64 r3]) ∧ Below w.heap.size w w' := by
 have hu24 := Try.underlying24
 have HR0 := Aside0.mk hr0
 have HC0 := Aside0.mk hc0
 clear hr0 hc0
 have HB := Aside0.mk (Below.refl w.heap.size w)
 have H : ((epactref25_Plain.f k l0 a1_0 a1_1).bind fun bt643 => (if bt643.2.2 = 0 then ((epactref25_place.f k l0 a1_0).bind fun t647 => (if t647 < 0 then (some (bt643.1, bt643.2.1, 0)) else ((epactref22_Length.f k l0 t647).bind fun bt648 => ((epactref25_noon.f k l0 t647).bind fun t650 => ((epactref02_MulDiv.f k (wrap64 ((wrap64 ((wrap64 (a1_0 - t650)) * 1000000000)) + a1_1)) 86400 bt648.1).bind fun bt651 => ((epactref25_behind.f (wrap64 ((wrap64 (86400 * t647)) + 43200)) bt651.1).bind fun bt654 => (some (bt654.1, bt654.2, 0)))))))) else (some (0, 0, bt643.2.2)))) = some (r1, r2, r3) := h
 clear h
 obtain ⟨⟨t643, t644, t645⟩, A3, H⟩ := bnd H
 try dsimp only at H
 by_cases c4 : t645 = 0
 ·rw [if_pos c4] at H
  have c4b0 : (t645 == 0) = true := beq_iff_eq.mpr c4
  have c4b1 : (t645 != 0) = false := bne_eq_false_iff_eq.mpr c4
  clear c4
  obtain ⟨t647, A5, H⟩ := bnd H
  try dsimp only at H
  by_cases c6 : t647 < 0
  ·rw [if_pos c6] at H
   have c6b0 : decide (t647 < 0) = true := decide_eq_true c6
   clear c6
   simp only [Option.some.injEq, Prod.mk.injEq] at H
   obtain ⟨rfl, rfl, rfl⟩ := H
   go_enter Try.func14, Try.ntmps14
   go_wp2_with (first | (refine bx 3 #[.int .i64 a1_0, .int .i64 a1_1] 24 ?_; intro gb641 hg w7 hbox hb; have n1_ := Aside0.mk (hbox); have GW641 := gw HB hg; have GE641 := gw HB hg; replace HB := bs HB hb; have BK641 := n1_; clear n1_; clear hb hbox hg) | (refine bx 4 #[.int .i64 0, .int .i64 0] 24 ?_; intro gb642 hg w8 hbox hb; have n2_ := Aside0.mk (hbox); have GW642 := gw HB hg; have GE642 := gw HB hg; have NB641_642 := nl BK641 hg; have NB642_641 := nr BK641 hg; replace BK641 := kb BK641 hb; replace HB := bs HB hb; have BK642 := n2_; clear n2_; clear hb hbox hg; have hnb9 := NB641_642.out; have hnc9 := NB642_641.out; have hcz10_0 := bc BK641 0; have hcz10_1 := bc BK641 1; have hfz10_0 := bf BK641 0; have hfz10_1 := bf BK641 1) | (refine gM (some 18) Try.func18 #[.slice A0 l0.length c0, .agg #[.int .i64 a1_0, .int .i64 a1_1]] (epactref25_Plain.calls k _ _ l0 a1_0 a1_1 t643 t644 t645 _ ?side1 ?side2 A3.out) ?_; (case side1 => exact cb HR0 HB); (case side2 => exact HC0.out); intro w11 hb; replace BK641 := kb BK641 hb; replace BK642 := kb BK642 hb; replace HB := bs HB hb; (try clear hb)) | (refine bx 6 #[.int .i64 0, .int .i64 0] 24 ?_; intro gb646 hg w12 hbox hb; have n3_ := Aside0.mk (hbox); have GW646 := gw HB hg; have GE646 := gw HB hg; have NB641_646 := nl BK641 hg; have NB646_641 := nr BK641 hg; have NB642_646 := nl BK642 hg; have NB646_642 := nr BK642 hg; replace BK641 := kb BK641 hb; replace BK642 := kb BK642 hb; replace HB := bs HB hb; have BK646 := n3_; clear n3_; clear hb hbox hg; have hnb13 := NB646_641.out; have hnc13 := NB641_646.out; have hnb14 := NB646_642.out; have hnc14 := NB642_646.out; have hcz15_0 := bc BK646 0; have hcz15_1 := bc BK646 1; have hfz15_0 := bf BK646 0; have hfz15_1 := bf BK646 1; have hcz16_0 := bc BK641 0; have hcz16_1 := bc BK641 1; have hfz16_0 := bf BK641 0; have hfz16_1 := bf BK641 1) | (refine gM (some 28) Try.func34 #[.slice A0 l0.length c0, .int .i64 a1_0] (epactref25_place.calls k _ _ l0 a1_0 t647 _ ?side1 ?side2 A5.out) ?_; (case side1 => exact cb HR0 HB); (case side2 => exact HC0.out); intro w17 hb; have n0_ := kf BK641 hb; have n1_ := kf BK642 hb; have n2_ := Aside0.mk (blk_below (g := gb646) (o := .cells #[.int .i64 t643, .int .i64 t644] 24 (0, 0)) (by (with_reducible repeat (first | refine blk_drewN ?_ _ | refine blk_drew ?_ | refine blk_alloc ?_ _)); refine blk_put (cs := #[.int .i64 t643, .int .i64 0]) ?_ 1 _ rfl; (with_reducible repeat (first | refine blk_drewN ?_ _ | refine blk_drew ?_ | refine blk_alloc ?_ _)); refine blk_put (cs := #[.int .i64 0, .int .i64 0]) ?_ 0 _ rfl; (with_reducible repeat (first | refine blk_drewN ?_ _ | refine blk_drew ?_ | refine blk_alloc ?_ _)); exact BK646.out) hb); replace HB := bs HB hb; clear BK641; clear BK642; clear BK646; have BK641 := n0_; have BK642 := n1_; have BK646 := n2_; clear n0_ n1_ n2_; (try clear hb); have hcz18_0 := bc BK646 0; have hcz18_1 := bc BK646 1; have hfz18_0 := bf BK646 0; have hfz18_1 := bf BK646 1; have hcz19_0 := bc BK642 0; have hcz19_1 := bc BK642 1; have hfz19_0 := bf BK642 0; have hfz19_1 := bf BK642 1))
   refine bodyPost_ret (results_ct rfl _ _ gb642 24 #[.int .i64 t643, .int .i64 t644] (0, 0) _ rfl (by (with_reducible repeat (first | refine blk_drewN ?_ _ | refine blk_drew ?_ | refine blk_alloc ?_ _)); refine blk_put (cs := #[.int .i64 t643, .int .i64 0]) ?_ 1 _ rfl; (with_reducible repeat (first | refine blk_drewN ?_ _ | refine blk_drew ?_ | refine blk_alloc ?_ _)); refine blk_put (cs := #[.int .i64 0, .int .i64 0]) ?_ 0 _ rfl; (with_reducible repeat (first | refine blk_drewN ?_ _ | refine blk_drew ?_ | refine blk_alloc ?_ _)); exact BK642.out) Try.underlying24 rfl (by kernel_rfl)) rfl ?_
   exact fi HB
  ·rw [if_neg c6] at H
   have c6b0 : decide (t647 < 0) = false := decide_eq_false c6
   clear c6
   obtain ⟨⟨t648, t649⟩, A20, H⟩ := bnd H
   try dsimp only at H
   obtain ⟨t650, A21, H⟩ := bnd H
   try dsimp only at H
   obtain ⟨⟨t651, t652, t653⟩, A22, H⟩ := bnd H
   try dsimp only at H
   obtain ⟨⟨t654, t655⟩, A23, H⟩ := bnd H
   try dsimp only at H
   simp only [Option.some.injEq, Prod.mk.injEq] at H
   obtain ⟨rfl, rfl, rfl⟩ := H
   go_enter Try.func14, Try.ntmps14
   try go_wp2_with (first | (refine bx 3 #[.int .i64 a1_0, .int .i64 a1_1] 24 ?_; intro gb641 hg w24 hbox hb; have n1_ := Aside0.mk (hbox); have GW641 := gw HB hg; have GE641 := gw HB hg; replace HB := bs HB hb; have BK641 := n1_; clear n1_; clear hb hbox hg) | (refine bx 4 #[.int .i64 0, .int .i64 0] 24 ?_; intro gb642 hg w25 hbox hb; have n2_ := Aside0.mk (hbox); have GW642 := gw HB hg; have GE642 := gw HB hg; have NB641_642 := nl BK641 hg; have NB642_641 := nr BK641 hg; replace BK641 := kb BK641 hb; replace HB := bs HB hb; have BK642 := n2_; clear n2_; clear hb hbox hg; have hnb26 := NB641_642.out; have hnc26 := NB642_641.out; have hcz27_0 := bc BK641 0; have hcz27_1 := bc BK641 1; have hfz27_0 := bf BK641 0; have hfz27_1 := bf BK641 1) | (refine gM (some 18) Try.func18 #[.slice A0 l0.length c0, .agg #[.int .i64 a1_0, .int .i64 a1_1]] (epactref25_Plain.calls k _ _ l0 a1_0 a1_1 t643 t644 t645 _ ?side1 ?side2 A3.out) ?_; (case side1 => exact cb HR0 HB); (case side2 => exact HC0.out); intro w28 hb; replace BK641 := kb BK641 hb; replace BK642 := kb BK642 hb; replace HB := bs HB hb; (try clear hb)) | (refine bx 6 #[.int .i64 0, .int .i64 0] 24 ?_; intro gb646 hg w29 hbox hb; have n3_ := Aside0.mk (hbox); have GW646 := gw HB hg; have GE646 := gw HB hg; have NB641_646 := nl BK641 hg; have NB646_641 := nr BK641 hg; have NB642_646 := nl BK642 hg; have NB646_642 := nr BK642 hg; replace BK641 := kb BK641 hb; replace BK642 := kb BK642 hb; replace HB := bs HB hb; have BK646 := n3_; clear n3_; clear hb hbox hg; have hnb30 := NB646_641.out; have hnc30 := NB641_646.out; have hnb31 := NB646_642.out; have hnc31 := NB642_646.out; have hcz32_0 := bc BK646 0; have hcz32_1 := bc BK646 1; have hfz32_0 := bf BK646 0; have hfz32_1 := bf BK646 1; have hcz33_0 := bc BK641 0; have hcz33_1 := bc BK641 1; have hfz33_0 := bf BK641 0; have hfz33_1 := bf BK641 1) | (refine gM (some 28) Try.func34 #[.slice A0 l0.length c0, .int .i64 a1_0] (epactref25_place.calls k _ _ l0 a1_0 t647 _ ?side1 ?side2 A5.out) ?_; (case side1 => exact cb HR0 HB); (case side2 => exact HC0.out); intro w34 hb; have n0_ := kf BK641 hb; have n1_ := kf BK642 hb; have n2_ := Aside0.mk (blk_below (g := gb646) (o := .cells #[.int .i64 t643, .int .i64 t644] 24 (0, 0)) (by (with_reducible repeat (first | refine blk_drewN ?_ _ | refine blk_drew ?_ | refine blk_alloc ?_ _)); refine blk_put (cs := #[.int .i64 t643, .int .i64 0]) ?_ 1 _ rfl; (with_reducible repeat (first | refine blk_drewN ?_ _ | refine blk_drew ?_ | refine blk_alloc ?_ _)); refine blk_put (cs := #[.int .i64 0, .int .i64 0]) ?_ 0 _ rfl; (with_reducible repeat (first | refine blk_drewN ?_ _ | refine blk_drew ?_ | refine blk_alloc ?_ _)); exact BK646.out) hb); replace HB := bs HB hb; clear BK641; clear BK642; clear BK646; have BK641 := n0_; have BK642 := n1_; have BK646 := n2_; clear n0_ n1_ n2_; (try clear hb)) | (refine gM (some 35) Try.func35 #[.slice A0 l0.length c0, .int .i64 t647] (epactref22_Length.calls k _ _ l0 t647 t648 t649 _ ?side1 ?side2 A20.out) ?_; (case side1 => exact cb HR0 HB); (case side2 => exact HC0.out); intro w35 hb; replace BK641 := kb BK641 hb; replace BK642 := kb BK642 hb; replace BK646 := kb BK646 hb; replace HB := bs HB hb; (try clear hb)))
   have n0_ := Aside0.mk (blk_drew BK641.out)
   have n1_ := Aside0.mk (blk_drew BK642.out)
   have n2_ := Aside0.mk (blk_drew BK646.out)
   have n3_ := Aside0.mk (below_drew1 HB.out)
   clear BK641
   clear BK642
   clear BK646
   clear HB
   have BK641 := n0_
   have BK642 := n1_
   have BK646 := n2_
   have HB := n3_
   clear n0_ n1_ n2_ n3_
   refine start_ (n := 11) (S := fun w' => w'.cell? ⟨gb641, 0, none⟩ = some (.int .i64 a1_0) ∧ w'.cell? ⟨gb641, 1, none⟩ = some (.int .i64 a1_1)) (ds := []) #[false, false, false, false, false, false, false, false, false, false, false] (by kernel_rfl) rfl rfl ⟨(blk_cell BK641.out 0).trans rfl, (blk_cell BK641.out 1).trans rfl⟩ (fun hHeld => ?_); refine with_tabW epactref25_Smear.tab8 epactref25_Smear.bits8 (fun HT_ HW_ => ?_)
   generalize w35.drew = w36 at BK641 BK642 BK646 HB hHeld ⊢
   refine pu HT_ 0 (some 38) #[true, false, false, false, false, false, false, false, false, false, false] ?_
   refine pu HT_ 2 (some 40) #[true, false, true, false, false, false, false, false, false, false, false] ?_
   refine pu HT_ 3 (some 41) #[true, false, true, true, false, false, false, false, false, false, false] ?_
   refine pu HT_ 7 (some 45) #[true, false, true, true, false, false, false, true, false, false, false] ?_
   refine take_ (i := 1) (N := some 39) (v := ?_) (a' := ?_) #[true, true, true, true, false, false, false, true, false, false, false] rfl rfl (take_ofW HT_.out HW_.out (by kernel_rfl)) (fun _ _ _ h => h) (Or.inl ⟨by rfl, ?_⟩) hHeld ?_ ?_
   rotate_left
   ·rintro w' ⟨s0, s1⟩
    go_simp
    with_reducible rfl
   rotate_left
   ·simp only [Act.put, List.setIfInBounds_toArray, List.set_cons_zero, List.set_cons_succ, i64_w, i32_w]
    rfl
   refine take_ (i := 8) (N := some 46) (v := ?_) (a' := ?_) #[true, true, true, true, false, false, false, true, true, false, false] rfl rfl (take_ofW HT_.out HW_.out (by kernel_rfl)) (fun _ _ _ h => h) (Or.inl ⟨by rfl, ?_⟩) hHeld ?_ ?_
   rotate_left
   ·rintro w' ⟨s0, s1⟩
    go_simp
    with_reducible rfl
   rotate_left
   ·simp only [Act.put, List.setIfInBounds_toArray, List.set_cons_zero, List.set_cons_succ, i64_w, i32_w]
    rfl
   refine one_ (i := 4) (N := some 42) #[true, true, true, true, true, false, false, true, true, false, false] rfl rfl (one_of HT_.out (by kernel_rfl)) (by decide) (fun K hK => ?_)
   refine goes_ Try.func36 (by kernel_rfl) rfl #[.slice A0 l0.length c0, .int .i64 t647] (by rfl) rfl rfl (by (try simp only [List.map_toArray, List.map_cons, List.map_nil]); first | done | rfl | (simp only [List.length_drop, List.length_take]; rfl)) ?_
   with_reducible refine (epactref25_noon.calls k _ _ l0 t647 t650 _ ?side1 ?side2 A21.out).mono ?_
   (case side1 => exact cb HR0 HB)
   (case side2 => exact HC0.out)
   rintro e w37 ⟨rfl, hb⟩
   refine ⟨_, rfl, ?_⟩
   have n0_ := kb BK641 hb
   have n1_ := kb BK642 hb
   have n2_ := kb BK646 hb
   have n3_ := bs HB hb
   clear BK641
   clear BK642
   clear BK646
   clear HB
   have BK641 := n0_
   have BK642 := n1_
   have BK646 := n2_
   have HB := n3_
   clear n0_ n1_ n2_ n3_
   (try clear hb)
   (try clear hb2)
   (try clear hk)
   (try clear hi)
   refine hK.out _ _ ⟨(blk_cell BK641.out 0).trans rfl, (blk_cell BK641.out 1).trans rfl⟩ (fun hHeld => ?_)
   clear hK K
   refine norm_ (a' := ?_) ?_ ?_
   rotate_left
   ·show Act.put _ (some 42) _ = _
    simp only [Act.put, List.setIfInBounds_toArray, List.set_cons_zero, List.set_cons_succ, i64_w, i32_w]
    rfl
   refine pu HT_ 5 (some 43) #[true, true, true, true, true, true, false, true, true, false, false] ?_
   refine pu HT_ 6 (some 44) #[true, true, true, true, true, true, true, true, true, false, false] ?_
   refine pu HT_ 9 (some 47) #[true, true, true, true, true, true, true, true, true, true, false] ?_
   refine pu HT_ 10 (some 11) #[true, true, true, true, true, true, true, true, true, true, true] ?_
   refine done_ (done_of HT_.out (by kernel_rfl)) ?_
   try go_wp2_with (first | (refine gM (some 51) Try.func41 #[.int .i64 (wrap64 ((wrap64 ((wrap64 (a1_0 - t650)) * 1000000000)) + a1_1)), .int .i64 86400, .int .i64 t648] (epactref02_MulDiv.calls k (wrap64 ((wrap64 ((wrap64 (a1_0 - t650)) * 1000000000)) + a1_1)) 86400 t648 t651 t652 t653 _ A22.out) ?_; intro w38 hb; replace BK641 := kb BK641 hb; replace BK642 := kb BK642 hb; replace BK646 := kb BK646 hb; replace HB := bs HB hb; (try clear hb)) | (refine gM (some 59) Try.func42 #[.int .i64 (wrap64 ((wrap64 (86400 * t647)) + 43200)), .int .i64 t651] (epactref25_behind.calls (wrap64 ((wrap64 (86400 * t647)) + 43200)) t651 t654 t655 _ A23.out) ?_; intro w39 hb; replace BK641 := kb BK641 hb; replace BK642 := kb BK642 hb; replace BK646 := kb BK646 hb; replace HB := bs HB hb; (try clear hb); have hcz40_0 := bc BK642 0; have hcz40_1 := bc BK642 1; have hfz40_0 := bf BK642 0; have hfz40_1 := bf BK642 1))
   refine bodyPost_ret (results_ct rfl _ _ gb642 24 #[.int .i64 t654, .int .i64 t655] (0, 0) _ rfl (by (with_reducible repeat (first | refine blk_drewN ?_ _ | refine blk_drew ?_ | refine blk_alloc ?_ _)); refine blk_put (cs := #[.int .i64 t654, .int .i64 0]) ?_ 1 _ rfl; (with_reducible repeat (first | refine blk_drewN ?_ _ | refine blk_drew ?_ | refine blk_alloc ?_ _)); refine blk_put (cs := #[.int .i64 0, .int .i64 0]) ?_ 0 _ rfl; (with_reducible repeat (first | refine blk_drewN ?_ _ | refine blk_drew ?_ | refine blk_alloc ?_ _)); exact BK642.out) Try.underlying24 rfl (by kernel_rfl)) rfl ?_
   exact fi HB
 ·rw [if_neg c4] at H
  have c4b0 : (t645 == 0) = false := beq_eq_false_iff_ne.mpr c4
  have c4b1 : (t645 != 0) = true := bne_iff_ne.mpr c4
  simp only [Option.some.injEq, Prod.mk.injEq] at H
  obtain ⟨rfl, rfl, rfl⟩ := H
  go_enter Try.func14, Try.ntmps14
  go_wp2_with (first | (refine bx 3 #[.int .i64 a1_0, .int .i64 a1_1] 24 ?_; intro gb641 hg w41 hbox hb; have n1_ := Aside0.mk (hbox); have GW641 := gw HB hg; have GE641 := gw HB hg; replace HB := bs HB hb; have BK641 := n1_; clear n1_; clear hb hbox hg) | (refine bx 4 #[.int .i64 0, .int .i64 0] 24 ?_; intro gb642 hg w42 hbox hb; have n2_ := Aside0.mk (hbox); have GW642 := gw HB hg; have GE642 := gw HB hg; have NB641_642 := nl BK641 hg; have NB642_641 := nr BK641 hg; replace BK641 := kb BK641 hb; replace HB := bs HB hb; have BK642 := n2_; clear n2_; clear hb hbox hg; have hnb43 := NB641_642.out; have hnc43 := NB642_641.out; have hcz44_0 := bc BK641 0; have hcz44_1 := bc BK641 1; have hfz44_0 := bf BK641 0; have hfz44_1 := bf BK641 1) | (refine gM (some 18) Try.func18 #[.slice A0 l0.length c0, .agg #[.int .i64 a1_0, .int .i64 a1_1]] (epactref25_Plain.calls k _ _ l0 a1_0 a1_1 t643 t644 t645 _ ?side1 ?side2 A3.out) ?_; (case side1 => exact cb HR0 HB); (case side2 => exact HC0.out); intro w45 hb; replace BK641 := kb BK641 hb; replace BK642 := kb BK642 hb; replace HB := bs HB hb; (try clear hb)) | (refine bx 6 #[.int .i64 0, .int .i64 0] 24 ?_; intro gb646 hg w46 hbox hb; have n3_ := Aside0.mk (hbox); have GW646 := gw HB hg; have GE646 := gw HB hg; have NB641_646 := nl BK641 hg; have NB646_641 := nr BK641 hg; have NB642_646 := nl BK642 hg; have NB646_642 := nr BK642 hg; replace BK641 := kb BK641 hb; replace BK642 := kb BK642 hb; replace HB := bs HB hb; have BK646 := n3_; clear n3_; clear hb hbox hg; have hnb47 := NB646_641.out; have hnc47 := NB641_646.out; have hnb48 := NB646_642.out; have hnc48 := NB642_646.out; have hcz49_0 := bc BK646 0; have hcz49_1 := bc BK646 1; have hfz49_0 := bf BK646 0; have hfz49_1 := bf BK646 1; have hcz50_0 := bc BK642 0; have hcz50_1 := bc BK642 1; have hfz50_0 := bf BK642 0; have hfz50_1 := bf BK642 1))
  refine bodyPost_ret (results_ct rfl _ _ gb642 24 #[.int .i64 0, .int .i64 0] (0, 0) _ rfl (by (with_reducible repeat (first | refine blk_drewN ?_ _ | refine blk_drew ?_ | refine blk_alloc ?_ _)); refine blk_put (cs := #[.int .i64 0, .int .i64 0]) ?_ 1 _ rfl; (with_reducible repeat (first | refine blk_drewN ?_ _ | refine blk_drew ?_ | refine blk_alloc ?_ _)); refine blk_put (cs := #[.int .i64 0, .int .i64 0]) ?_ 0 _ rfl; (with_reducible repeat (first | refine blk_drewN ?_ _ | refine blk_drew ?_ | refine blk_alloc ?_ _)); refine blk_far ?_ NB642_646.out _; (with_reducible repeat (first | refine blk_drewN ?_ _ | refine blk_drew ?_ | refine blk_alloc ?_ _)); refine blk_far ?_ NB642_646.out _; (with_reducible repeat (first | refine blk_drewN ?_ _ | refine blk_drew ?_ | refine blk_alloc ?_ _)); exact BK642.out) Try.underlying24 rfl (by kernel_rfl)) rfl ?_
  exact fi HB

/-! ### epactref02_Up: function 49 -/
def epactref02_Up.j0 : Nat → Int → Int → Bool → Option (Int × Bool)
 | 0, _, _, _ => none
 | k + 1, x8, x9, x28 => if x28 = true then (some (0, false)) else (if x9 > 0 then (some (wrap64 (x8 + 1), true)) else (some (x8, true)))
def epactref02_Up.f (k : Nat) (a0 : Int) (a1 : Int) (a2 : Int) : Option (Int × Bool) := (epactref02_MulDiv.f k a0 a1 a2).bind fun bt656 => (if bt656.2.2 = true then (if bt656.2.1 > 0 then (epactref02_Up.j0 k bt656.1 bt656.2.1 (bt656.1 == 9223372036854775807)) else (epactref02_Up.j0 k bt656.1 bt656.2.1 false)) else (epactref02_Up.j0 k bt656.1 bt656.2.1 true))
theorem epactref02_Up.mono_l : ∀ k, (∀ y0 y1 y2, LeO (epactref02_Up.j0 k y0 y1 y2) (epactref02_Up.j0 (k + 1) y0 y1 y2))
 | 0 => fun _ _ _ r h => by simp [epactref02_Up.j0] at h
 | k + 1 => by
  have ih0 := epactref02_Up.mono_l k
  ·intro y0 y1 y2
   unfold epactref02_Up.j0
   repeat' first
   | (with_reducible exact ih0 _ _ _)
   | (with_reducible exact epactref02_MulDiv.mono _ _ _ _)
   | (with_reducible exact LeO.refl _)
   | (with_reducible exact LeO.none _)
   | (with_reducible refine LeO.ite ?_ ?_)
   | (with_reducible refine LeO.bind ?_ (fun _ => ?_))
theorem epactref02_Up.mono : ∀ a0 a1 a2 k, LeO (epactref02_Up.f k a0 a1 a2) (epactref02_Up.f (k + 1) a0 a1 a2) := by
 intro a0 a1 a2 k
 have ih0 := epactref02_Up.mono_l k
 unfold epactref02_Up.f
 repeat' first
   | (with_reducible exact ih0 _ _ _)
   | (with_reducible exact epactref02_MulDiv.mono _ _ _ _)
   | (with_reducible exact LeO.refl _)
   | (with_reducible exact LeO.none _)
   | (with_reducible refine LeO.ite ?_ ?_)
   | (with_reducible refine LeO.bind ?_ (fun _ => ?_))
set_option maxHeartbeats 8000000 in
set_option maxRecDepth 100000 in
theorem epactref02_Up.calls (k : Nat) (a0 : Int) (a1 : Int) (a2 : Int) (r1 : Int) (r2 : Bool) (w : World) (h : epactref02_Up.f k a0 a1 a2 = some (r1, r2)) :
  Calls Try.prog 49 #[.int .i64 a0, .int .i64 a1, .int .i64 a2] w fun e w' => e = .returned (.tuple #[.int .i64 r1, .bool r2]) ∧ Below w.heap.size w w' := by
 have HB := Aside0.mk (Below.refl w.heap.size w)
 have H : ((epactref02_MulDiv.f k a0 a1 a2).bind fun bt656 => (if bt656.2.2 = true then (if bt656.2.1 > 0 then (epactref02_Up.j0 k bt656.1 bt656.2.1 (bt656.1 == 9223372036854775807)) else (epactref02_Up.j0 k bt656.1 bt656.2.1 false)) else (epactref02_Up.j0 k bt656.1 bt656.2.1 true))) = some (r1, r2) := h
 clear h
 obtain ⟨⟨t656, t657, t658⟩, A4, H⟩ := bnd H
 try dsimp only at H
 have HC5 := Aside0.mk H
 clear H
 go_enter Try.func49, Try.ntmps49
 go_upto_region 2 with (first | (refine gM (some 15) Try.func41 #[.int .i64 a0, .int .i64 a1, .int .i64 a2] (epactref02_MulDiv.calls k a0 a1 a2 t656 t657 t658 _ A4.out) ?_; intro w6 hb; replace HB := bs HB hb; (try clear hb)))
 (try simp only [Act.put, List.setIfInBounds_toArray, List.set_cons_zero, List.set_cons_succ])
 go_cut [28] (fun v28 wc => ∃ (kq : Nat) (x28_4 : Bool), v28 = .bool x28_4 ∧ Aside0 (epactref02_Up.j0 kq t656 t657 x28_4 = some (r1, r2)) ∧ Aside0 (kq ≤ k) ∧ Aside0 (Below w.heap.size w wc))
 case first =>
  have H := HC5.out
  clear HC5
  by_cases c7 : t658 = true
  ·subst c7
   rw [if_pos rfl] at H
   by_cases c8 : t657 > 0
   ·rw [if_pos c8] at H
    have c8b0 : decide (0 < t657) = true := decide_eq_true c8
    clear c8
    (first | rw [c8b0] | (simp only [i64_w, i32_w]; rw [c8b0]) | skip)
    have H' := Aside0.mk H
    clear H
    go_wp2
    go_meet
    case rel => exact ⟨_, ((t656 == 9223372036854775807)), pr, H', om, ba HB⟩
   ·rw [if_neg c8] at H
    have c8b0 : decide (0 < t657) = false := decide_eq_false c8
    clear c8
    (first | rw [c8b0] | (simp only [i64_w, i32_w]; rw [c8b0]) | skip)
    have H' := Aside0.mk H
    clear H
    go_wp2
    go_meet
    case rel => exact ⟨_, (false), pr, H', om, ba HB⟩
  ·replace c7 := Bool.eq_false_iff.mpr c7
   subst c7
   rw [if_neg (show ¬ (false = true) by decide)] at H
   have H' := Aside0.mk H
   clear H
   go_wp2
   go_meet
   case rel => exact ⟨_, (true), pr, H', om, ba HB⟩
 case rest =>
  clear HC5
  try clear p2
  try clear c4
  try clear c7
  try clear c8
  try clear c8b0
  obtain ⟨kq, x28_4, rfl, HA, HJ4, HB⟩ := hcut
  cases kq with
  | zero => exact absurd HA.out (by simp [epactref02_Up.j0])
  | succ kj4 =>
   have H := HA.out
   clear HA
   simp only [epactref02_Up.j0] at H
   by_cases c9 : x28_4 = true
   ·subst c9
    rw [if_pos rfl] at H
    simp only [Option.some.injEq, Prod.mk.injEq] at H
    obtain ⟨rfl, rfl⟩ := H
    go_wp2
    go_ret2
    exact fi HB
   ·replace c9 := Bool.eq_false_iff.mpr c9
    subst c9
    rw [if_neg (show ¬ (false = true) by decide)] at H
    by_cases c10 : t657 > 0
    ·rw [if_pos c10] at H
     have c10b0 : decide (0 < t657) = true := decide_eq_true c10
     clear c10
     simp only [Option.some.injEq, Prod.mk.injEq] at H
     obtain ⟨rfl, rfl⟩ := H
     go_wp2
     go_ret2
     exact fi HB
    ·rw [if_neg c10] at H
     have c10b0 : decide (0 < t657) = false := decide_eq_false c10
     clear c10
     simp only [Option.some.injEq, Prod.mk.injEq] at H
     obtain ⟨rfl, rfl⟩ := H
     go_wp2
     go_ret2
     exact fi HB

/-! ### epactref23_Day: function 81 -/
def epactref23_Day.f (a0 : Int) : Option (Int × Int) := (epactref01_Div.f a0 86400).bind fun bt659 => (some (bt659.1, bt659.2.1))
set_option maxHeartbeats 8000000 in
set_option maxRecDepth 100000 in
theorem epactref23_Day.calls (a0 : Int) (r1 : Int) (r2 : Int) (w : World) (h : epactref23_Day.f a0 = some (r1, r2)) :
  Calls Try.prog 81 #[.int .i64 a0] w fun e w' => e = .returned (.tuple #[.int .i64 r1, .int .i64 r2]) ∧ Drawn0 w w' := by
 have H : ((epactref01_Div.f a0 86400).bind fun bt659 => (some (bt659.1, bt659.2.1))) = some (r1, r2) := h
 clear h
 obtain ⟨⟨t659, t660, t661⟩, A2, H⟩ := bnd H
 try dsimp only at H
 simp only [Option.some.injEq, Prod.mk.injEq] at H
 obtain ⟨rfl, rfl⟩ := H
 go_enter Try.func81, Try.ntmps81
 go_wp2_with (first | (refine gN (some 9) Try.func100 #[.int .i64 a0, .int .i64 86400] (epactref01_Div.calls a0 86400 t659 t660 t661 _ A2.out) ?_; intro nd))
 go_ret2
 exact fd

/-! ### epactref23_Tai: function 51 -/
def epactref23_Tai.f (k : Nat) (l0 : List (S53)) (a1 : Int) : Option (Int × Int) := (epactref23_Day.f a1).bind fun bt662 => ((epactref22_Tai.f k l0 bt662.1 bt662.2).bind fun bt664 => (some (bt664.1, bt664.2)))
theorem epactref23_Tai.mono : ∀ a0 a1 k, LeO (epactref23_Tai.f k a0 a1) (epactref23_Tai.f (k + 1) a0 a1) := by
 intro a0 a1 k
 unfold epactref23_Tai.f
 repeat' first
   | (with_reducible exact epactref22_Tai.mono _ _ _ _)
   | (with_reducible exact LeO.refl _)
   | (with_reducible exact LeO.none _)
   | (with_reducible refine LeO.ite ?_ ?_)
   | (with_reducible refine LeO.bind ?_ (fun _ => ?_))
set_option maxHeartbeats 8000000 in
set_option maxRecDepth 100000 in
theorem epactref23_Tai.calls (k : Nat) (A0 : Option Addr) (c0 : Nat) (l0 : List (S53)) (a1 : Int) (r1 : Int) (r2 : Int) (w : World) (hr0 : Kd.C k53 w A0 l0.length l0) (hc0 : l0.length ≤ c0) (h : epactref23_Tai.f k l0 a1 = some (r1, r2)) :
  Calls Try.prog 51 #[.slice A0 l0.length c0, .int .i64 a1] w fun e w' => e = .returned (.tuple #[.int .i64 r1, .int .i64 r2]) ∧ Below w.heap.size w w' := by
 have HR0 := Aside0.mk hr0
 have HC0 := Aside0.mk hc0
 clear hr0 hc0
 have HB := Aside0.mk (Below.refl w.heap.size w)
 have H : ((epactref23_Day.f a1).bind fun bt662 => ((epactref22_Tai.f k l0 bt662.1 bt662.2).bind fun bt664 => (some (bt664.1, bt664.2)))) = some (r1, r2) := h
 clear h
 obtain ⟨⟨t662, t663⟩, A3, H⟩ := bnd H
 try dsimp only at H
 obtain ⟨⟨t664, t665⟩, A4, H⟩ := bnd H
 try dsimp only at H
 simp only [Option.some.injEq, Prod.mk.injEq] at H
 obtain ⟨rfl, rfl⟩ := H
 go_enter Try.func51, Try.ntmps51
 go_wp2_with (first | (refine gN (some 10) Try.func81 #[.int .i64 a1] (epactref23_Day.calls a1 t662 t663 _ A3.out) ?_; intro nd) | (refine gM (some 16) Try.func71 #[.slice A0 l0.length c0, .int .i64 t662, .int .i64 t663] (epactref22_Tai.calls k _ _ l0 t662 t663 t664 t665 _ ?side1 ?side2 A4.out) ?_; (case side1 => exact ca HR0); (case side2 => exact HC0.out); intro w5 hb; replace HB := bs HB hb; (try clear hb)))
 go_ret2
 exact fi HB

end Go.Proofs.Ythoigncoojcanaa.PAll
