-- Written for this claim by wip/tools of this repo (after the kit's print; own contracts laid in).
import Derived.Test.YthoigncoojcanaaPAllx0
import Derived.Test.YthoigncoojcanaaShort
import Derived.Test.YthoigncoojcanaaPAllx1
import Derived.Test.YthoigncoojcanaaPAllx5
import Derived.Test.YthoigncoojcanaaPAllx6
import Derived.Test.YthoigncoojcanaaPAllx8
import Derived.Test.YthoigncoojcanaaPAllx9
import Derived.Test.YthoigncoojcanaaPAllx10
import Derived.Test.YthoigncoojcanaaPAllx24
import Derived.Test.YthoigncoojcanaaPAllx25
import Derived.Test.YthoigncoojcanaaPAllx26
import Derived.Test.YthoigncoojcanaaPAllx27
namespace Go.Proofs.Ythoigncoojcanaa.PAll
open Go.RowKit Go.Proofs.YthoigncoojcanaaW.PrintWords Go.Proofs.YthoigncoojcanaaW.PrintLast Go.Proofs.YthoigncoojcanaaW.PrintMore
attribute [local go_sem] max2_int min2_int max_two min_two max_three min_three max_four min_four   -- for this text's walks alone
set_option linter.unusedVariables false
set_option linter.unusedSimpArgs false

attribute [local go_sem high] eqA24
/-! ### epactlaw25_SmearTells: function 3 -/
def epactlaw25_SmearTells.f (k : Nat) (l0 : List (S53)) (a1_0 : Int) (a1_1 : Int) (a2_0 : Int) (a2_1 : Int) : Option (Bool) := (epactlaw25_small.f k).bind fun t693 => (if (l0.length : Int) > 150 then (some t693) else ((smear_Window.f k l0 a1_0).bind fun bt694 => ((epactref25_Window.f k l0 a1_0).bind fun bt697 => ((smear_Smear.f k l0 a1_0 a1_1).bind fun bt700 => ((epactref25_Smear.f k l0 a1_0 a1_1).bind fun bt704 => ((smear_Unsmear.f k l0 a2_0 a2_1).bind fun bt708 => ((epactref25_Unsmear.f k l0 a2_0 a2_1).bind fun bt712 => ((smear_Plain.f k l0 a1_0 a1_1).bind fun bt716 => ((epactref25_Plain.f k l0 a1_0 a1_1).bind fun bt720 => (if t693 = true then (if bt694.1 = bt697.1 then (if bt694.2.1 = bt697.2.1 then (if (bt694.2.2 == bt697.2.2) = true then (if (bt700.1 == bt704.1 && (bt700.2.1 == bt704.2.1)) = true then (if bt700.2.2 = bt704.2.2 then (if (bt708.1 == bt712.1 && (bt708.2.1 == bt712.2.1)) = true then (if bt708.2.2 = bt712.2.2 then (if (bt716.1 == bt720.1 && (bt716.2.1 == bt720.2.1)) = true then (if bt716.2.2 = bt720.2.2 then ((smear_Less.f a1_0 a1_1 a2_0 a2_1).bind fun t724 => ((epactref25_Less.f a1_0 a1_1 a2_0 a2_1).bind fun t725 => (some (t724 == t725)))) else (none)) else (none)) else (none)) else (none)) else (none)) else (none)) else (none)) else (none)) else (none)) else (none)))))))))))
theorem epactlaw25_SmearTells.mono : ∀ a0 a1 a2 a3 a4 k, LeO (epactlaw25_SmearTells.f k a0 a1 a2 a3 a4) (epactlaw25_SmearTells.f (k + 1) a0 a1 a2 a3 a4) := by
 intro a0 a1 a2 a3 a4 k
 unfold epactlaw25_SmearTells.f
 repeat' first
   | (with_reducible exact epactlaw25_small.mono _)
   | (with_reducible exact epactref25_Plain.mono _ _ _ _)
   | (with_reducible exact epactref25_Smear.mono _ _ _ _)
   | (with_reducible exact epactref25_Unsmear.mono _ _ _ _)
   | (with_reducible exact epactref25_Window.mono _ _ _)
   | (with_reducible exact smear_Plain.mono _ _ _ _)
   | (with_reducible exact smear_Smear.mono _ _ _ _)
   | (with_reducible exact smear_Unsmear.mono _ _ _ _)
   | (with_reducible exact smear_Window.mono _ _ _)
   | (with_reducible exact LeO.refl _)
   | (with_reducible exact LeO.none _)
   | (with_reducible refine LeO.ite ?_ ?_)
   | (with_reducible refine LeO.bind ?_ (fun _ => ?_))
def epactlaw25_SmearTells.T12 : Bool × List (List Nat × List Nat) := (true, [([], []), ([0], [0]), ([1], [1]), ([1], [1]), ([2, 3, 1], [1, 2, 3]), ([1, 4], [1, 4]), ([5, 1], [5]), ([6], [6]), ([6], [6]), ([7, 8, 6], [6, 7, 8]), ([6, 9], [6, 9]), ([10, 6], [10]), ([11], [11]), ([11], [11]), ([12, 13, 11], [11, 12, 13]), ([11, 14], [11, 14]), ([15, 11], [15]), ([16], [16]), ([16], [16]), ([17, 18, 16], [16, 17, 18]), ([16, 19], [16, 19]), ([20, 16], [20]), ([21], [21]), ([21], [21]), ([22, 23, 21], [21, 22, 23]), ([21, 24], [21, 24]), ([25, 21], [25]), ([26], [26]), ([26], [26]), ([27, 28, 26], [26, 27, 28]), ([26, 29], [26, 29]), ([30, 26], [30]), ([31], [31]), ([31], [31]), ([32, 33, 31], [31, 32, 33]), ([31, 34], [31, 34]), ([35, 31], [35]), ([36], [36]), ([36], [36]), ([37, 38, 36], [36, 37, 38]), ([36, 39], [36, 39]), ([40, 36], [40]), ([41], [41]), ([41], [41]), ([42, 43, 41], [41, 42, 43]), ([41, 44], [41, 44]), ([45, 41], [45]), ([46], [46]), ([46], [46]), ([47, 48, 46, 46], [46, 47, 48]), ([46], [46]), ([46], [46]), ([50, 51, 49, 46], [46, 50, 51]), ([49, 52, 46], [46, 49, 52]), ([46, 53], [46, 53]), ([54, 52, 0, 1, 2, 3, 4, 5, 6, 7, 8, 9, 10, 11, 12, 13, 14, 15, 16, 17, 18, 19, 20, 21, 22, 23, 24, 25, 26, 27, 28, 29, 30, 31, 32, 33, 34, 35, 36, 37, 38, 39, 40, 41, 42, 43, 44, 45, 46, 47, 48, 49, 50, 51, 52, 53, 54], [54])])
def epactlaw25_SmearTells.B12 : List Nat := [0, 1, 3, 3, 15, 31, 63, 127, 127, 511, 1023, 2047, 4095, 4095, 16383, 32767, 65535, 131071, 131071, 524287, 1048575, 2097151, 4194303, 4194303, 16777215, 33554431, 67108863, 134217727, 134217727, 536870911, 1073741823, 2147483647, 4294967295, 4294967295, 17179869183, 34359738367, 68719476735, 137438953471, 137438953471, 549755813887, 1099511627775, 2199023255551, 4398046511103, 4398046511103, 17592186044415, 35184372088831, 70368744177663, 140737488355327, 140737488355327, 562949953421311, 140737488355327, 140737488355327, 4503599627370495, 9007199254740991, 18014398509481983, 36028797018963967]
theorem epactlaw25_SmearTells.tab12 : rtab .any (opsOf Try.f3 12) = epactlaw25_SmearTells.T12 := by kernel_rfl
theorem epactlaw25_SmearTells.bits12 : waitsOk epactlaw25_SmearTells.T12.2 epactlaw25_SmearTells.B12 = true := by kernel_rfl
set_option maxHeartbeats 8000000 in
set_option maxRecDepth 100000 in
theorem epactlaw25_SmearTells.calls (k : Nat) (A0 : Option Addr) (c0 : Nat) (l0 : List (S53)) (a1_0 : Int) (a1_1 : Int) (a2_0 : Int) (a2_1 : Int) (r : Bool) (w : World) (hr0 : Kd.C k53 w A0 l0.length l0) (hc0 : l0.length ≤ c0) (h : epactlaw25_SmearTells.f k l0 a1_0 a1_1 a2_0 a2_1 = some r) :
  Calls Try.prog 3 #[.slice A0 l0.length c0, .agg #[.int .i64 a1_0, .int .i64 a1_1], .agg #[.int .i64 a2_0, .int .i64 a2_1]] w fun e w' => e = .returned (.bool r) ∧ Below w.heap.size w w' := by
 have hu24 := Try.underlying24
 have HR0 := Aside0.mk hr0
 have HC0 := Aside0.mk hc0
 clear hr0 hc0
 have HB := Aside0.mk (Below.refl w.heap.size w)
 have H : ((epactlaw25_small.f k).bind fun t693 => (if (l0.length : Int) > 150 then (some t693) else ((smear_Window.f k l0 a1_0).bind fun bt694 => ((epactref25_Window.f k l0 a1_0).bind fun bt697 => ((smear_Smear.f k l0 a1_0 a1_1).bind fun bt700 => ((epactref25_Smear.f k l0 a1_0 a1_1).bind fun bt704 => ((smear_Unsmear.f k l0 a2_0 a2_1).bind fun bt708 => ((epactref25_Unsmear.f k l0 a2_0 a2_1).bind fun bt712 => ((smear_Plain.f k l0 a1_0 a1_1).bind fun bt716 => ((epactref25_Plain.f k l0 a1_0 a1_1).bind fun bt720 => (if t693 = true then (if bt694.1 = bt697.1 then (if bt694.2.1 = bt697.2.1 then (if (bt694.2.2 == bt697.2.2) = true then (if (bt700.1 == bt704.1 && (bt700.2.1 == bt704.2.1)) = true then (if bt700.2.2 = bt704.2.2 then (if (bt708.1 == bt712.1 && (bt708.2.1 == bt712.2.1)) = true then (if bt708.2.2 = bt712.2.2 then (if (bt716.1 == bt720.1 && (bt716.2.1 == bt720.2.1)) = true then (if bt716.2.2 = bt720.2.2 then ((smear_Less.f a1_0 a1_1 a2_0 a2_1).bind fun t724 => ((epactref25_Less.f a1_0 a1_1 a2_0 a2_1).bind fun t725 => (some (t724 == t725)))) else (none)) else (none)) else (none)) else (none)) else (none)) else (none)) else (none)) else (none)) else (none)) else (none)))))))))))) = some r := h
 clear h
 obtain ⟨t693, A4, H⟩ := bnd H
 try dsimp only at H
 by_cases c5 : (l0.length : Int) > 150
 ·rw [if_pos c5] at H
  have c5b0 : decide (150 < (l0.length : Int)) = true := decide_eq_true c5
  have c5b1 : decide (150 < l0.length) = true := decide_eq_true (by omega)
  clear c5
  obtain rfl := Option.some.inj H
  go_enter Try.func3, Try.ntmps3
  go_wp2_with (first | ((with_reducible refine gate_dst (N := 4) rfl ?_); refine bx 4 #[.int .i64 a1_0, .int .i64 a1_1] 24 ?_; intro gb691 hg w6 hbox hb; have n1_ := Aside0.mk (hbox); have GW691 := gw HB hg; have GE691 := gw HB hg; replace HB := bs HB hb; have BK691 := n1_; clear n1_; clear hb hbox hg) | ((with_reducible refine gate_dst (N := 5) rfl ?_); refine bx 5 #[.int .i64 a2_0, .int .i64 a2_1] 24 ?_; intro gb692 hg w7 hbox hb; have n2_ := Aside0.mk (hbox); have GW692 := gw HB hg; have GE692 := gw HB hg; have NB691_692 := nl BK691 hg; have NB692_691 := nr BK691 hg; replace BK691 := kb BK691 hb; replace HB := bs HB hb; have BK692 := n2_; clear n2_; clear hb hbox hg) | (refine gM (some 26) Try.func10 #[] (epactlaw25_small.calls k  t693 _ A4.out) ?_; intro w8 hb; replace BK691 := kb BK691 hb; replace BK692 := kb BK692 hb; replace HB := bs HB hb; (try clear hb)))
  go_ret
  exact fi HB
 ·rw [if_neg c5] at H
  have c5b0 : decide (150 < (l0.length : Int)) = false := decide_eq_false c5
  have c5b1 : decide (150 < l0.length) = false := decide_eq_false (by omega)
  clear c5
  obtain ⟨⟨t694, t695, t696⟩, A9, H⟩ := bnd H
  try dsimp only at H
  obtain ⟨⟨t697, t698, t699⟩, A10, H⟩ := bnd H
  try dsimp only at H
  obtain ⟨⟨t700, t701, t702⟩, A11, H⟩ := bnd H
  try dsimp only at H
  obtain ⟨⟨t704, t705, t706⟩, A12, H⟩ := bnd H
  try dsimp only at H
  obtain ⟨⟨t708, t709, t710⟩, A13, H⟩ := bnd H
  try dsimp only at H
  obtain ⟨⟨t712, t713, t714⟩, A14, H⟩ := bnd H
  try dsimp only at H
  obtain ⟨⟨t716, t717, t718⟩, A15, H⟩ := bnd H
  try dsimp only at H
  obtain ⟨⟨t720, t721, t722⟩, A16, H⟩ := bnd H
  try dsimp only at H
  by_cases c17 : t693 = true
  ·subst c17
   rw [if_pos rfl] at H
   by_cases c18 : t694 = t697
   ·rw [if_pos c18] at H
    have c18b0 : (t694 == t697) = true := beq_iff_eq.mpr c18
    have c18b1 : (t694 != t697) = false := bne_eq_false_iff_eq.mpr c18
    clear c18
    by_cases c19 : t695 = t698
    ·rw [if_pos c19] at H
     have c19b0 : (t695 == t698) = true := beq_iff_eq.mpr c19
     have c19b1 : (t695 != t698) = false := bne_eq_false_iff_eq.mpr c19
     clear c19
     by_cases c20 : (t696 == t699) = true
     ·rw [if_pos c20] at H
      have c20b0 : (t696 == t699) = true := c20
      (try (have c20b1 : decide (t696 = t699) = true := by first | (simp; done) | (simp at c20; done) | simpa using c20))
      (try (have c20b2 : (t696 == t699) = true := by first | (simp; done) | (simp at c20; done) | simpa using c20))
      clear c20
      by_cases c21 : (t700 == t704 && (t701 == t705)) = true
      ·rw [if_pos c21] at H
       have c21b0 : (t700 == t704 && (t701 == t705)) = true := c21
       (try (have c21b1 : decide (t700 = t704 && (t701 == t705)) = true := by first | (simp; done) | (simp at c21; done) | simpa using c21))
       (try (have c21b2 : (t700 == t704 && (t701 == t705)) = true := by first | (simp; done) | (simp at c21; done) | simpa using c21))
       clear c21
       by_cases c22 : t702 = t706
       ·rw [if_pos c22] at H
        have c22b0 : (t702 == t706) = true := beq_iff_eq.mpr c22
        have c22b1 : (t702 != t706) = false := bne_eq_false_iff_eq.mpr c22
        clear c22
        by_cases c23 : (t708 == t712 && (t709 == t713)) = true
        ·rw [if_pos c23] at H
         have c23b0 : (t708 == t712 && (t709 == t713)) = true := c23
         (try (have c23b1 : decide (t708 = t712 && (t709 == t713)) = true := by first | (simp; done) | (simp at c23; done) | simpa using c23))
         (try (have c23b2 : (t708 == t712 && (t709 == t713)) = true := by first | (simp; done) | (simp at c23; done) | simpa using c23))
         clear c23
         by_cases c24 : t710 = t714
         ·rw [if_pos c24] at H
          have c24b0 : (t710 == t714) = true := beq_iff_eq.mpr c24
          have c24b1 : (t710 != t714) = false := bne_eq_false_iff_eq.mpr c24
          clear c24
          by_cases c25 : (t716 == t720 && (t717 == t721)) = true
          ·rw [if_pos c25] at H
           have c25b0 : (t716 == t720 && (t717 == t721)) = true := c25
           (try (have c25b1 : decide (t716 = t720 && (t717 == t721)) = true := by first | (simp; done) | (simp at c25; done) | simpa using c25))
           (try (have c25b2 : (t716 == t720 && (t717 == t721)) = true := by first | (simp; done) | (simp at c25; done) | simpa using c25))
           clear c25
           by_cases c26 : t718 = t722
           ·rw [if_pos c26] at H
            have c26b0 : (t718 == t722) = true := beq_iff_eq.mpr c26
            have c26b1 : (t718 != t722) = false := bne_eq_false_iff_eq.mpr c26
            clear c26
            obtain ⟨t724, A27, H⟩ := bnd H
            try dsimp only at H
            obtain ⟨t725, A28, H⟩ := bnd H
            try dsimp only at H
            obtain rfl := Option.some.inj H
            go_enter Try.func3, Try.ntmps3
            try go_wp2_with (first | ((with_reducible refine gate_dst (N := 4) rfl ?_); refine bx 4 #[.int .i64 a1_0, .int .i64 a1_1] 24 ?_; intro gb691 hg w29 hbox hb; have n1_ := Aside0.mk (hbox); have GW691 := gw HB hg; have GE691 := gw HB hg; replace HB := bs HB hb; have BK691 := n1_; clear n1_; clear hb hbox hg) | ((with_reducible refine gate_dst (N := 5) rfl ?_); refine bx 5 #[.int .i64 a2_0, .int .i64 a2_1] 24 ?_; intro gb692 hg w30 hbox hb; have n2_ := Aside0.mk (hbox); have GW692 := gw HB hg; have GE692 := gw HB hg; have NB691_692 := nl BK691 hg; have NB692_691 := nr BK691 hg; replace BK691 := kb BK691 hb; replace HB := bs HB hb; have BK692 := n2_; clear n2_; clear hb hbox hg) | (refine gM (some 26) Try.func10 #[] (epactlaw25_small.calls k  true _ A4.out) ?_; intro w31 hb; replace BK691 := kb BK691 hb; replace BK692 := kb BK692 hb; replace HB := bs HB hb; (try clear hb); have hnb32 := NB691_692.out; have hnc32 := NB692_691.out; have hcz33_0 := bc BK691 0; have hcz33_1 := bc BK691 1; have hfz33_0 := bf BK691 0; have hfz33_1 := bf BK691 1) | (refine gM (some 35) Try.func11 #[.slice A0 l0.length c0, .int .i64 a1_0] (smear_Window.calls k _ _ l0 a1_0 t694 t695 t696 _ ?side1 ?side2 A9.out) ?_; (case side1 => exact cb HR0 HB); (case side2 => exact HC0.out); intro w34 hb; replace BK691 := kb BK691 hb; replace BK692 := kb BK692 hb; replace HB := bs HB hb; (try clear hb); have hcz35_0 := bc BK691 0; have hcz35_1 := bc BK691 1; have hfz35_0 := bf BK691 0; have hfz35_1 := bf BK691 1) | (refine gM (some 43) Try.func12 #[.slice A0 l0.length c0, .int .i64 a1_0] (epactref25_Window.calls k _ _ l0 a1_0 t697 t698 t699 _ ?side1 ?side2 A10.out) ?_; (case side1 => exact cb HR0 HB); (case side2 => exact HC0.out); intro w36 hb; replace BK691 := kb BK691 hb; replace BK692 := kb BK692 hb; replace HB := bs HB hb; (try clear hb); have hcz37_0 := bc BK691 0; have hcz37_1 := bc BK691 1; have hfz37_0 := bf BK691 0; have hfz37_1 := bf BK691 1) | (refine gM (some 50) Try.func13 #[.slice A0 l0.length c0, .agg #[.int .i64 a1_0, .int .i64 a1_1]] (smear_Smear.calls k _ _ l0 a1_0 a1_1 t700 t701 t702 _ ?side1 ?side2 A11.out) ?_; (case side1 => exact cb HR0 HB); (case side2 => exact HC0.out); intro w38 hb; replace BK691 := kb BK691 hb; replace BK692 := kb BK692 hb; replace HB := bs HB hb; (try clear hb)) | ((with_reducible refine gate_dst (N := 14) rfl ?_); refine bx 14 #[.int .i64 0, .int .i64 0] 24 ?_; intro gb703 hg w39 hbox hb; have n3_ := Aside0.mk (hbox); have GW703 := gw HB hg; have GE703 := gw HB hg; have NB691_703 := nl BK691 hg; have NB703_691 := nr BK691 hg; have NB692_703 := nl BK692 hg; have NB703_692 := nr BK692 hg; replace BK691 := kb BK691 hb; replace BK692 := kb BK692 hb; replace HB := bs HB hb; have BK703 := n3_; clear n3_; clear hb hbox hg; have hnb40 := NB703_691.out; have hnc40 := NB691_703.out; have hnb41 := NB703_692.out; have hnc41 := NB692_703.out; have hcz42_0 := bc BK703 0; have hcz42_1 := bc BK703 1; have hfz42_0 := bf BK703 0; have hfz42_1 := bf BK703 1; have hcz43_0 := bc BK691 0; have hcz43_1 := bc BK691 1; have hfz43_0 := bf BK691 0; have hfz43_1 := bf BK691 1) | (refine gM (some 56) Try.func14 #[.slice A0 l0.length c0, .agg #[.int .i64 a1_0, .int .i64 a1_1]] (epactref25_Smear.calls k _ _ l0 a1_0 a1_1 t704 t705 t706 _ ?side1 ?side2 A12.out) ?_; (case side1 => exact cb HR0 HB); (case side2 => exact HC0.out); intro w44 hb; have n0_ := kf BK691 hb; have n1_ := kf BK692 hb; have n2_ := Aside0.mk (blk_below (g := gb703) (o := .cells #[.int .i64 t700, .int .i64 t701] 24 (0, 0)) (by (with_reducible repeat (first | refine blk_drewN ?_ _ | refine blk_drew ?_ | refine blk_alloc ?_ _)); refine blk_put (cs := #[.int .i64 t700, .int .i64 0]) ?_ 1 _ rfl; (with_reducible repeat (first | refine blk_drewN ?_ _ | refine blk_drew ?_ | refine blk_alloc ?_ _)); refine blk_put (cs := #[.int .i64 0, .int .i64 0]) ?_ 0 _ rfl; (with_reducible repeat (first | refine blk_drewN ?_ _ | refine blk_drew ?_ | refine blk_alloc ?_ _)); exact BK703.out) hb); replace HB := bs HB hb; clear BK691; clear BK692; clear BK703; have BK691 := n0_; have BK692 := n1_; have BK703 := n2_; clear n0_ n1_ n2_; (try clear hb)) | ((with_reducible refine gate_dst (N := 16) rfl ?_); refine bx 16 #[.int .i64 0, .int .i64 0] 24 ?_; intro gb707 hg w45 hbox hb; have n4_ := Aside0.mk (hbox); have GW707 := gw HB hg; have GE707 := gw HB hg; have NB691_707 := nl BK691 hg; have NB707_691 := nr BK691 hg; have NB692_707 := nl BK692 hg; have NB707_692 := nr BK692 hg; have NB703_707 := nl BK703 hg; have NB707_703 := nr BK703 hg; replace BK691 := kb BK691 hb; replace BK692 := kb BK692 hb; replace BK703 := kb BK703 hb; replace HB := bs HB hb; have BK707 := n4_; clear n4_; clear hb hbox hg; have hnb46 := NB707_691.out; have hnc46 := NB691_707.out; have hnb47 := NB707_692.out; have hnc47 := NB692_707.out; have hnb48 := NB707_703.out; have hnc48 := NB703_707.out; have hcz49_0 := bc BK707 0; have hcz49_1 := bc BK707 1; have hfz49_0 := bf BK707 0; have hfz49_1 := bf BK707 1; have hcz50_0 := bc BK692 0; have hcz50_1 := bc BK692 1; have hfz50_0 := bf BK692 0; have hfz50_1 := bf BK692 1) | (refine gM (some 62) Try.func15 #[.slice A0 l0.length c0, .agg #[.int .i64 a2_0, .int .i64 a2_1]] (smear_Unsmear.calls k _ _ l0 a2_0 a2_1 t708 t709 t710 _ ?side1 ?side2 A13.out) ?_; (case side1 => exact cb HR0 HB); (case side2 => exact HC0.out); intro w51 hb; have n0_ := kf BK691 hb; have n1_ := kf BK692 hb; have n2_ := kf BK703 hb; have n3_ := Aside0.mk (blk_below (g := gb707) (o := .cells #[.int .i64 t704, .int .i64 t705] 24 (0, 0)) (by (with_reducible repeat (first | refine blk_drewN ?_ _ | refine blk_drew ?_ | refine blk_alloc ?_ _)); refine blk_put (cs := #[.int .i64 t704, .int .i64 0]) ?_ 1 _ rfl; (with_reducible repeat (first | refine blk_drewN ?_ _ | refine blk_drew ?_ | refine blk_alloc ?_ _)); refine blk_put (cs := #[.int .i64 0, .int .i64 0]) ?_ 0 _ rfl; (with_reducible repeat (first | refine blk_drewN ?_ _ | refine blk_drew ?_ | refine blk_alloc ?_ _)); exact BK707.out) hb); replace HB := bs HB hb; clear BK691; clear BK692; clear BK703; clear BK707; have BK691 := n0_; have BK692 := n1_; have BK703 := n2_; have BK707 := n3_; clear n0_ n1_ n2_ n3_; (try clear hb)) | ((with_reducible refine gate_dst (N := 18) rfl ?_); refine bx 18 #[.int .i64 0, .int .i64 0] 24 ?_; intro gb711 hg w52 hbox hb; have n5_ := Aside0.mk (hbox); have GW711 := gw HB hg; have GE711 := gw HB hg; have NB691_711 := nl BK691 hg; have NB711_691 := nr BK691 hg; have NB692_711 := nl BK692 hg; have NB711_692 := nr BK692 hg; have NB703_711 := nl BK703 hg; have NB711_703 := nr BK703 hg; have NB707_711 := nl BK707 hg; have NB711_707 := nr BK707 hg; replace BK691 := kb BK691 hb; replace BK692 := kb BK692 hb; replace BK703 := kb BK703 hb; replace BK707 := kb BK707 hb; replace HB := bs HB hb; have BK711 := n5_; clear n5_; clear hb hbox hg; have hnb53 := NB711_691.out; have hnc53 := NB691_711.out; have hnb54 := NB711_692.out; have hnc54 := NB692_711.out; have hnb55 := NB711_703.out; have hnc55 := NB703_711.out; have hnb56 := NB711_707.out; have hnc56 := NB707_711.out; have hcz57_0 := bc BK711 0; have hcz57_1 := bc BK711 1; have hfz57_0 := bf BK711 0; have hfz57_1 := bf BK711 1; have hcz58_0 := bc BK692 0; have hcz58_1 := bc BK692 1; have hfz58_0 := bf BK692 0; have hfz58_1 := bf BK692 1) | (refine gM (some 68) Try.func16 #[.slice A0 l0.length c0, .agg #[.int .i64 a2_0, .int .i64 a2_1]] (epactref25_Unsmear.calls k _ _ l0 a2_0 a2_1 t712 t713 t714 _ ?side1 ?side2 A14.out) ?_; (case side1 => exact cb HR0 HB); (case side2 => exact HC0.out); intro w59 hb; have n0_ := kf BK691 hb; have n1_ := kf BK692 hb; have n2_ := kf BK703 hb; have n3_ := kf BK707 hb; have n4_ := Aside0.mk (blk_below (g := gb711) (o := .cells #[.int .i64 t708, .int .i64 t709] 24 (0, 0)) (by (with_reducible repeat (first | refine blk_drewN ?_ _ | refine blk_drew ?_ | refine blk_alloc ?_ _)); refine blk_put (cs := #[.int .i64 t708, .int .i64 0]) ?_ 1 _ rfl; (with_reducible repeat (first | refine blk_drewN ?_ _ | refine blk_drew ?_ | refine blk_alloc ?_ _)); refine blk_put (cs := #[.int .i64 0, .int .i64 0]) ?_ 0 _ rfl; (with_reducible repeat (first | refine blk_drewN ?_ _ | refine blk_drew ?_ | refine blk_alloc ?_ _)); exact BK711.out) hb); replace HB := bs HB hb; clear BK691; clear BK692; clear BK703; clear BK707; clear BK711; have BK691 := n0_; have BK692 := n1_; have BK703 := n2_; have BK707 := n3_; have BK711 := n4_; clear n0_ n1_ n2_ n3_ n4_; (try clear hb)) | ((with_reducible refine gate_dst (N := 20) rfl ?_); refine bx 20 #[.int .i64 0, .int .i64 0] 24 ?_; intro gb715 hg w60 hbox hb; have n6_ := Aside0.mk (hbox); have GW715 := gw HB hg; have GE715 := gw HB hg; have NB691_715 := nl BK691 hg; have NB715_691 := nr BK691 hg; have NB692_715 := nl BK692 hg; have NB715_692 := nr BK692 hg; have NB703_715 := nl BK703 hg; have NB715_703 := nr BK703 hg; have NB707_715 := nl BK707 hg; have NB715_707 := nr BK707 hg; have NB711_715 := nl BK711 hg; have NB715_711 := nr BK711 hg; replace BK691 := kb BK691 hb; replace BK692 := kb BK692 hb; replace BK703 := kb BK703 hb; replace BK707 := kb BK707 hb; replace BK711 := kb BK711 hb; replace HB := bs HB hb; have BK715 := n6_; clear n6_; clear hb hbox hg; have hnb61 := NB715_691.out; have hnc61 := NB691_715.out; have hnb62 := NB715_692.out; have hnc62 := NB692_715.out; have hnb63 := NB715_703.out; have hnc63 := NB703_715.out; have hnb64 := NB715_707.out; have hnc64 := NB707_715.out; have hnb65 := NB715_711.out; have hnc65 := NB711_715.out; have hcz66_0 := bc BK715 0; have hcz66_1 := bc BK715 1; have hfz66_0 := bf BK715 0; have hfz66_1 := bf BK715 1; have hcz67_0 := bc BK691 0; have hcz67_1 := bc BK691 1; have hfz67_0 := bf BK691 0; have hfz67_1 := bf BK691 1) | (refine gM (some 74) Try.func17 #[.slice A0 l0.length c0, .agg #[.int .i64 a1_0, .int .i64 a1_1]] (smear_Plain.calls k _ _ l0 a1_0 a1_1 t716 t717 t718 _ ?side1 ?side2 A15.out) ?_; (case side1 => exact cb HR0 HB); (case side2 => exact HC0.out); intro w68 hb; have n0_ := kf BK691 hb; have n1_ := kf BK692 hb; have n2_ := kf BK703 hb; have n3_ := kf BK707 hb; have n4_ := kf BK711 hb; have n5_ := Aside0.mk (blk_below (g := gb715) (o := .cells #[.int .i64 t712, .int .i64 t713] 24 (0, 0)) (by (with_reducible repeat (first | refine blk_drewN ?_ _ | refine blk_drew ?_ | refine blk_alloc ?_ _)); refine blk_put (cs := #[.int .i64 t712, .int .i64 0]) ?_ 1 _ rfl; (with_reducible repeat (first | refine blk_drewN ?_ _ | refine blk_drew ?_ | refine blk_alloc ?_ _)); refine blk_put (cs := #[.int .i64 0, .int .i64 0]) ?_ 0 _ rfl; (with_reducible repeat (first | refine blk_drewN ?_ _ | refine blk_drew ?_ | refine blk_alloc ?_ _)); exact BK715.out) hb); replace HB := bs HB hb; clear BK691; clear BK692; clear BK703; clear BK707; clear BK711; clear BK715; have BK691 := n0_; have BK692 := n1_; have BK703 := n2_; have BK707 := n3_; have BK711 := n4_; have BK715 := n5_; clear n0_ n1_ n2_ n3_ n4_ n5_; (try clear hb)) | ((with_reducible refine gate_dst (N := 22) rfl ?_); refine bx 22 #[.int .i64 0, .int .i64 0] 24 ?_; intro gb719 hg w69 hbox hb; have n7_ := Aside0.mk (hbox); have GW719 := gw HB hg; have GE719 := gw HB hg; have NB691_719 := nl BK691 hg; have NB719_691 := nr BK691 hg; have NB692_719 := nl BK692 hg; have NB719_692 := nr BK692 hg; have NB703_719 := nl BK703 hg; have NB719_703 := nr BK703 hg; have NB707_719 := nl BK707 hg; have NB719_707 := nr BK707 hg; have NB711_719 := nl BK711 hg; have NB719_711 := nr BK711 hg; have NB715_719 := nl BK715 hg; have NB719_715 := nr BK715 hg; replace BK691 := kb BK691 hb; replace BK692 := kb BK692 hb; replace BK703 := kb BK703 hb; replace BK707 := kb BK707 hb; replace BK711 := kb BK711 hb; replace BK715 := kb BK715 hb; replace HB := bs HB hb; have BK719 := n7_; clear n7_; clear hb hbox hg; have hnb70 := NB719_691.out; have hnc70 := NB691_719.out; have hnb71 := NB719_692.out; have hnc71 := NB692_719.out; have hnb72 := NB719_703.out; have hnc72 := NB703_719.out; have hnb73 := NB719_707.out; have hnc73 := NB707_719.out; have hnb74 := NB719_711.out; have hnc74 := NB711_719.out; have hnb75 := NB719_715.out; have hnc75 := NB715_719.out; have hcz76_0 := bc BK719 0; have hcz76_1 := bc BK719 1; have hfz76_0 := bf BK719 0; have hfz76_1 := bf BK719 1; have hcz77_0 := bc BK691 0; have hcz77_1 := bc BK691 1; have hfz77_0 := bf BK691 0; have hfz77_1 := bf BK691 1) | (refine gM (some 80) Try.func18 #[.slice A0 l0.length c0, .agg #[.int .i64 a1_0, .int .i64 a1_1]] (epactref25_Plain.calls k _ _ l0 a1_0 a1_1 t720 t721 t722 _ ?side1 ?side2 A16.out) ?_; (case side1 => exact cb HR0 HB); (case side2 => exact HC0.out); intro w78 hb; have n0_ := kf BK691 hb; have n1_ := kf BK692 hb; have n2_ := kf BK703 hb; have n3_ := kf BK707 hb; have n4_ := kf BK711 hb; have n5_ := kf BK715 hb; have n6_ := Aside0.mk (blk_below (g := gb719) (o := .cells #[.int .i64 t716, .int .i64 t717] 24 (0, 0)) (by (with_reducible repeat (first | refine blk_drewN ?_ _ | refine blk_drew ?_ | refine blk_alloc ?_ _)); refine blk_put (cs := #[.int .i64 t716, .int .i64 0]) ?_ 1 _ rfl; (with_reducible repeat (first | refine blk_drewN ?_ _ | refine blk_drew ?_ | refine blk_alloc ?_ _)); refine blk_put (cs := #[.int .i64 0, .int .i64 0]) ?_ 0 _ rfl; (with_reducible repeat (first | refine blk_drewN ?_ _ | refine blk_drew ?_ | refine blk_alloc ?_ _)); exact BK719.out) hb); replace HB := bs HB hb; clear BK691; clear BK692; clear BK703; clear BK707; clear BK711; clear BK715; clear BK719; have BK691 := n0_; have BK692 := n1_; have BK703 := n2_; have BK707 := n3_; have BK711 := n4_; have BK715 := n5_; have BK719 := n6_; clear n0_ n1_ n2_ n3_ n4_ n5_ n6_; (try clear hb)) | ((with_reducible refine gate_dst (N := 24) rfl ?_); refine bx 24 #[.int .i64 0, .int .i64 0] 24 ?_; intro gb723 hg w79 hbox hb; have n8_ := Aside0.mk (hbox); have GW723 := gw HB hg; have GE723 := gw HB hg; have NB691_723 := nl BK691 hg; have NB723_691 := nr BK691 hg; have NB692_723 := nl BK692 hg; have NB723_692 := nr BK692 hg; have NB703_723 := nl BK703 hg; have NB723_703 := nr BK703 hg; have NB707_723 := nl BK707 hg; have NB723_707 := nr BK707 hg; have NB711_723 := nl BK711 hg; have NB723_711 := nr BK711 hg; have NB715_723 := nl BK715 hg; have NB723_715 := nr BK715 hg; have NB719_723 := nl BK719 hg; have NB723_719 := nr BK719 hg; replace BK691 := kb BK691 hb; replace BK692 := kb BK692 hb; replace BK703 := kb BK703 hb; replace BK707 := kb BK707 hb; replace BK711 := kb BK711 hb; replace BK715 := kb BK715 hb; replace BK719 := kb BK719 hb; replace HB := bs HB hb; have BK723 := n8_; clear n8_; clear hb hbox hg; have hnb80 := NB723_691.out; have hnc80 := NB691_723.out; have hnb81 := NB723_692.out; have hnc81 := NB692_723.out; have hnb82 := NB723_703.out; have hnc82 := NB703_723.out; have hnb83 := NB723_707.out; have hnc83 := NB707_723.out; have hnb84 := NB723_711.out; have hnc84 := NB711_723.out; have hnb85 := NB723_715.out; have hnc85 := NB715_723.out; have hnb86 := NB723_719.out; have hnc86 := NB719_723.out; have hcz87_0 := bc BK723 0; have hcz87_1 := bc BK723 1; have hfz87_0 := bf BK723 0; have hfz87_1 := bf BK723 1))
            have n0_ : Aside0 (((w79.setCell ⟨gb723, 0, none⟩ (.int .i64 t720)).setCell ⟨gb723, 1, none⟩ (.int .i64 t721)).heap[gb691]? = some (.cells #[.int .i64 a1_0, .int .i64 a1_1] 24 (0, 0))) := kg BK691
            have n1_ : Aside0 (((w79.setCell ⟨gb723, 0, none⟩ (.int .i64 t720)).setCell ⟨gb723, 1, none⟩ (.int .i64 t721)).heap[gb692]? = some (.cells #[.int .i64 a2_0, .int .i64 a2_1] 24 (0, 0))) := kg BK692
            have n2_ : Aside0 (((w79.setCell ⟨gb723, 0, none⟩ (.int .i64 t720)).setCell ⟨gb723, 1, none⟩ (.int .i64 t721)).heap[gb703]? = some (.cells #[.int .i64 t700, .int .i64 t701] 24 (0, 0))) := kg BK703
            have n3_ : Aside0 (((w79.setCell ⟨gb723, 0, none⟩ (.int .i64 t720)).setCell ⟨gb723, 1, none⟩ (.int .i64 t721)).heap[gb707]? = some (.cells #[.int .i64 t704, .int .i64 t705] 24 (0, 0))) := kg BK707
            have n4_ : Aside0 (((w79.setCell ⟨gb723, 0, none⟩ (.int .i64 t720)).setCell ⟨gb723, 1, none⟩ (.int .i64 t721)).heap[gb711]? = some (.cells #[.int .i64 t708, .int .i64 t709] 24 (0, 0))) := kg BK711
            have n5_ : Aside0 (((w79.setCell ⟨gb723, 0, none⟩ (.int .i64 t720)).setCell ⟨gb723, 1, none⟩ (.int .i64 t721)).heap[gb715]? = some (.cells #[.int .i64 t712, .int .i64 t713] 24 (0, 0))) := kg BK715
            have n6_ : Aside0 (((w79.setCell ⟨gb723, 0, none⟩ (.int .i64 t720)).setCell ⟨gb723, 1, none⟩ (.int .i64 t721)).heap[gb719]? = some (.cells #[.int .i64 t716, .int .i64 t717] 24 (0, 0))) := kg BK719
            have n7_ : Aside0 (((w79.setCell ⟨gb723, 0, none⟩ (.int .i64 t720)).setCell ⟨gb723, 1, none⟩ (.int .i64 t721)).heap[gb723]? = some (.cells #[.int .i64 t720, .int .i64 t721] 24 (0, 0))) := ⟨by (with_reducible repeat (first | refine blk_drewN ?_ _ | refine blk_drew ?_ | refine blk_alloc ?_ _)); refine blk_put (cs := #[.int .i64 t720, .int .i64 0]) ?_ 1 _ rfl; (with_reducible repeat (first | refine blk_drewN ?_ _ | refine blk_drew ?_ | refine blk_alloc ?_ _)); refine blk_put (cs := #[.int .i64 0, .int .i64 0]) ?_ 0 _ rfl; (with_reducible repeat (first | refine blk_drewN ?_ _ | refine blk_drew ?_ | refine blk_alloc ?_ _)); exact BK723.out⟩
            have n8_ : Aside0 (Below w.heap.size w ((w79.setCell ⟨gb723, 0, none⟩ (.int .i64 t720)).setCell ⟨gb723, 1, none⟩ (.int .i64 t721))) := ba HB
            (try clear BK691)
            (try clear BK692)
            (try clear BK703)
            (try clear BK707)
            (try clear BK711)
            (try clear BK715)
            (try clear BK719)
            (try clear BK723)
            (try clear HB)
            generalize ((w79.setCell ⟨gb723, 0, none⟩ (.int .i64 t720)).setCell ⟨gb723, 1, none⟩ (.int .i64 t721)) = w88 at n0_ n1_ n2_ n3_ n4_ n5_ n6_ n7_ n8_ ⊢
            have BK691 := n0_
            have BK692 := n1_
            have BK703 := n2_
            have BK707 := n3_
            have BK711 := n4_
            have BK715 := n5_
            have BK719 := n6_
            have BK723 := n7_
            have HB := n8_
            clear n0_ n1_ n2_ n3_ n4_ n5_ n6_ n7_ n8_
            have n0_ := Aside0.mk (blk_drew BK691.out)
            have n1_ := Aside0.mk (blk_drew BK692.out)
            have n2_ := Aside0.mk (blk_drew BK703.out)
            have n3_ := Aside0.mk (blk_drew BK707.out)
            have n4_ := Aside0.mk (blk_drew BK711.out)
            have n5_ := Aside0.mk (blk_drew BK715.out)
            have n6_ := Aside0.mk (blk_drew BK719.out)
            have n7_ := Aside0.mk (blk_drew BK723.out)
            have n8_ := Aside0.mk (below_drew1 HB.out)
            clear BK691
            clear BK692
            clear BK703
            clear BK707
            clear BK711
            clear BK715
            clear BK719
            clear BK723
            clear HB
            have BK691 := n0_
            have BK692 := n1_
            have BK703 := n2_
            have BK707 := n3_
            have BK711 := n4_
            have BK715 := n5_
            have BK719 := n6_
            have BK723 := n7_
            have HB := n8_
            clear n0_ n1_ n2_ n3_ n4_ n5_ n6_ n7_ n8_
            refine start_ (n := 56) (S := fun w' => w'.cell? ⟨gb703, 0, none⟩ = some (.int .i64 t700) ∧ w'.cell? ⟨gb703, 1, none⟩ = some (.int .i64 t701) ∧ w'.cell? ⟨gb707, 0, none⟩ = some (.int .i64 t704) ∧ w'.cell? ⟨gb707, 1, none⟩ = some (.int .i64 t705) ∧ w'.cell? ⟨gb711, 0, none⟩ = some (.int .i64 t708) ∧ w'.cell? ⟨gb711, 1, none⟩ = some (.int .i64 t709) ∧ w'.cell? ⟨gb715, 0, none⟩ = some (.int .i64 t712) ∧ w'.cell? ⟨gb715, 1, none⟩ = some (.int .i64 t713) ∧ w'.cell? ⟨gb719, 0, none⟩ = some (.int .i64 t716) ∧ w'.cell? ⟨gb719, 1, none⟩ = some (.int .i64 t717) ∧ w'.cell? ⟨gb723, 0, none⟩ = some (.int .i64 t720) ∧ w'.cell? ⟨gb723, 1, none⟩ = some (.int .i64 t721) ∧ w'.cell? ⟨gb691, 0, none⟩ = some (.int .i64 a1_0) ∧ w'.cell? ⟨gb691, 1, none⟩ = some (.int .i64 a1_1) ∧ w'.cell? ⟨gb692, 0, none⟩ = some (.int .i64 a2_0) ∧ w'.cell? ⟨gb692, 1, none⟩ = some (.int .i64 a2_1)) (ds := []) #[false, false, false, false, false, false, false, false, false, false, false, false, false, false, false, false, false, false, false, false, false, false, false, false, false, false, false, false, false, false, false, false, false, false, false, false, false, false, false, false, false, false, false, false, false, false, false, false, false, false, false, false, false, false, false, false] (by kernel_rfl) rfl rfl ⟨(blk_cell BK703.out 0).trans rfl, (blk_cell BK703.out 1).trans rfl, (blk_cell BK707.out 0).trans rfl, (blk_cell BK707.out 1).trans rfl, (blk_cell BK711.out 0).trans rfl, (blk_cell BK711.out 1).trans rfl, (blk_cell BK715.out 0).trans rfl, (blk_cell BK715.out 1).trans rfl, (blk_cell BK719.out 0).trans rfl, (blk_cell BK719.out 1).trans rfl, (blk_cell BK723.out 0).trans rfl, (blk_cell BK723.out 1).trans rfl, (blk_cell BK691.out 0).trans rfl, (blk_cell BK691.out 1).trans rfl, (blk_cell BK692.out 0).trans rfl, (blk_cell BK692.out 1).trans rfl⟩ (fun hHeld => ?_); refine with_tabW epactlaw25_SmearTells.tab12 epactlaw25_SmearTells.bits12 (fun HT_ HW_ => ?_)
            generalize w88.drew = w89 at BK691 BK692 BK703 BK707 BK711 BK715 BK719 BK723 HB hHeld ⊢
            refine pu HT_ 0 (some 83) #[true, false, false, false, false, false, false, false, false, false, false, false, false, false, false, false, false, false, false, false, false, false, false, false, false, false, false, false, false, false, false, false, false, false, false, false, false, false, false, false, false, false, false, false, false, false, false, false, false, false, false, false, false, false, false, false] ?_
            refine pu HT_ 1 (some 84) #[true, true, false, false, false, false, false, false, false, false, false, false, false, false, false, false, false, false, false, false, false, false, false, false, false, false, false, false, false, false, false, false, false, false, false, false, false, false, false, false, false, false, false, false, false, false, false, false, false, false, false, false, false, false, false, false] ?_
            refine pu HT_ 2 (some 85) #[true, true, true, false, false, false, false, false, false, false, false, false, false, false, false, false, false, false, false, false, false, false, false, false, false, false, false, false, false, false, false, false, false, false, false, false, false, false, false, false, false, false, false, false, false, false, false, false, false, false, false, false, false, false, false, false] ?_
            refine pu HT_ 3 (some 86) #[true, true, true, true, false, false, false, false, false, false, false, false, false, false, false, false, false, false, false, false, false, false, false, false, false, false, false, false, false, false, false, false, false, false, false, false, false, false, false, false, false, false, false, false, false, false, false, false, false, false, false, false, false, false, false, false] ?_
            refine pu HT_ 4 (some 87) #[true, true, true, true, true, false, false, false, false, false, false, false, false, false, false, false, false, false, false, false, false, false, false, false, false, false, false, false, false, false, false, false, false, false, false, false, false, false, false, false, false, false, false, false, false, false, false, false, false, false, false, false, false, false, false, false] ?_
            refine pu HT_ 5 (some 88) #[true, true, true, true, true, true, false, false, false, false, false, false, false, false, false, false, false, false, false, false, false, false, false, false, false, false, false, false, false, false, false, false, false, false, false, false, false, false, false, false, false, false, false, false, false, false, false, false, false, false, false, false, false, false, false, false] ?_
            refine pu HT_ 6 (some 89) #[true, true, true, true, true, true, true, false, false, false, false, false, false, false, false, false, false, false, false, false, false, false, false, false, false, false, false, false, false, false, false, false, false, false, false, false, false, false, false, false, false, false, false, false, false, false, false, false, false, false, false, false, false, false, false, false] ?_
            refine pu HT_ 7 (some 90) #[true, true, true, true, true, true, true, true, false, false, false, false, false, false, false, false, false, false, false, false, false, false, false, false, false, false, false, false, false, false, false, false, false, false, false, false, false, false, false, false, false, false, false, false, false, false, false, false, false, false, false, false, false, false, false, false] ?_
            refine pu HT_ 8 (some 91) #[true, true, true, true, true, true, true, true, true, false, false, false, false, false, false, false, false, false, false, false, false, false, false, false, false, false, false, false, false, false, false, false, false, false, false, false, false, false, false, false, false, false, false, false, false, false, false, false, false, false, false, false, false, false, false, false] ?_
            refine pu HT_ 9 (some 92) #[true, true, true, true, true, true, true, true, true, true, false, false, false, false, false, false, false, false, false, false, false, false, false, false, false, false, false, false, false, false, false, false, false, false, false, false, false, false, false, false, false, false, false, false, false, false, false, false, false, false, false, false, false, false, false, false] ?_
            refine pu HT_ 10 (some 93) #[true, true, true, true, true, true, true, true, true, true, true, false, false, false, false, false, false, false, false, false, false, false, false, false, false, false, false, false, false, false, false, false, false, false, false, false, false, false, false, false, false, false, false, false, false, false, false, false, false, false, false, false, false, false, false, false] ?_
            refine pu HT_ 11 (some 94) #[true, true, true, true, true, true, true, true, true, true, true, true, false, false, false, false, false, false, false, false, false, false, false, false, false, false, false, false, false, false, false, false, false, false, false, false, false, false, false, false, false, false, false, false, false, false, false, false, false, false, false, false, false, false, false, false] ?_
            refine pu HT_ 12 (some 95) #[true, true, true, true, true, true, true, true, true, true, true, true, true, false, false, false, false, false, false, false, false, false, false, false, false, false, false, false, false, false, false, false, false, false, false, false, false, false, false, false, false, false, false, false, false, false, false, false, false, false, false, false, false, false, false, false] ?_
            refine pu HT_ 13 (some 96) #[true, true, true, true, true, true, true, true, true, true, true, true, true, true, false, false, false, false, false, false, false, false, false, false, false, false, false, false, false, false, false, false, false, false, false, false, false, false, false, false, false, false, false, false, false, false, false, false, false, false, false, false, false, false, false, false] ?_
            refine pu HT_ 14 (some 97) #[true, true, true, true, true, true, true, true, true, true, true, true, true, true, true, false, false, false, false, false, false, false, false, false, false, false, false, false, false, false, false, false, false, false, false, false, false, false, false, false, false, false, false, false, false, false, false, false, false, false, false, false, false, false, false, false] ?_
            refine pu HT_ 15 (some 98) #[true, true, true, true, true, true, true, true, true, true, true, true, true, true, true, true, false, false, false, false, false, false, false, false, false, false, false, false, false, false, false, false, false, false, false, false, false, false, false, false, false, false, false, false, false, false, false, false, false, false, false, false, false, false, false, false] ?_
            refine pu HT_ 16 (some 99) #[true, true, true, true, true, true, true, true, true, true, true, true, true, true, true, true, true, false, false, false, false, false, false, false, false, false, false, false, false, false, false, false, false, false, false, false, false, false, false, false, false, false, false, false, false, false, false, false, false, false, false, false, false, false, false, false] ?_
            refine take_ (i := 17) (N := some 100) (v := ?_) (a' := ?_) #[true, true, true, true, true, true, true, true, true, true, true, true, true, true, true, true, true, true, false, false, false, false, false, false, false, false, false, false, false, false, false, false, false, false, false, false, false, false, false, false, false, false, false, false, false, false, false, false, false, false, false, false, false, false, false, false] rfl rfl (take_ofW HT_.out HW_.out (by kernel_rfl)) (fun _ _ _ h => h) (Or.inl ⟨by rfl, ?_⟩) hHeld ?_ ?_
            rotate_left
            ·rintro w' ⟨s0, s1, s2, s3, s4, s5, s6, s7, s8, s9, s10, s11, s12, s13, s14, s15⟩
             go_simp
             with_reducible rfl
            rotate_left
            ·simp only [Act.put, List.setIfInBounds_toArray, List.set_cons_zero, List.set_cons_succ, i64_w, i32_w]
             rfl
            refine take_ (i := 18) (N := some 101) (v := ?_) (a' := ?_) #[true, true, true, true, true, true, true, true, true, true, true, true, true, true, true, true, true, true, true, false, false, false, false, false, false, false, false, false, false, false, false, false, false, false, false, false, false, false, false, false, false, false, false, false, false, false, false, false, false, false, false, false, false, false, false, false] rfl rfl (take_ofW HT_.out HW_.out (by kernel_rfl)) (fun _ _ _ h => h) (Or.inl ⟨by rfl, ?_⟩) hHeld ?_ ?_
            rotate_left
            ·rintro w' ⟨s0, s1, s2, s3, s4, s5, s6, s7, s8, s9, s10, s11, s12, s13, s14, s15⟩
             go_simp
             with_reducible rfl
            rotate_left
            ·simp only [Act.put, List.setIfInBounds_toArray, List.set_cons_zero, List.set_cons_succ, i64_w, i32_w]
             rfl
            refine pu HT_ 19 (some 102) #[true, true, true, true, true, true, true, true, true, true, true, true, true, true, true, true, true, true, true, true, false, false, false, false, false, false, false, false, false, false, false, false, false, false, false, false, false, false, false, false, false, false, false, false, false, false, false, false, false, false, false, false, false, false, false, false] ?_
            refine pu HT_ 20 (some 103) #[true, true, true, true, true, true, true, true, true, true, true, true, true, true, true, true, true, true, true, true, true, false, false, false, false, false, false, false, false, false, false, false, false, false, false, false, false, false, false, false, false, false, false, false, false, false, false, false, false, false, false, false, false, false, false, false] ?_
            refine pu HT_ 21 (some 104) #[true, true, true, true, true, true, true, true, true, true, true, true, true, true, true, true, true, true, true, true, true, true, false, false, false, false, false, false, false, false, false, false, false, false, false, false, false, false, false, false, false, false, false, false, false, false, false, false, false, false, false, false, false, false, false, false] ?_
            refine pu HT_ 22 (some 105) #[true, true, true, true, true, true, true, true, true, true, true, true, true, true, true, true, true, true, true, true, true, true, true, false, false, false, false, false, false, false, false, false, false, false, false, false, false, false, false, false, false, false, false, false, false, false, false, false, false, false, false, false, false, false, false, false] ?_
            refine pu HT_ 23 (some 106) #[true, true, true, true, true, true, true, true, true, true, true, true, true, true, true, true, true, true, true, true, true, true, true, true, false, false, false, false, false, false, false, false, false, false, false, false, false, false, false, false, false, false, false, false, false, false, false, false, false, false, false, false, false, false, false, false] ?_
            refine pu HT_ 24 (some 107) #[true, true, true, true, true, true, true, true, true, true, true, true, true, true, true, true, true, true, true, true, true, true, true, true, true, false, false, false, false, false, false, false, false, false, false, false, false, false, false, false, false, false, false, false, false, false, false, false, false, false, false, false, false, false, false, false] ?_
            refine pu HT_ 25 (some 108) #[true, true, true, true, true, true, true, true, true, true, true, true, true, true, true, true, true, true, true, true, true, true, true, true, true, true, false, false, false, false, false, false, false, false, false, false, false, false, false, false, false, false, false, false, false, false, false, false, false, false, false, false, false, false, false, false] ?_
            refine pu HT_ 26 (some 109) #[true, true, true, true, true, true, true, true, true, true, true, true, true, true, true, true, true, true, true, true, true, true, true, true, true, true, true, false, false, false, false, false, false, false, false, false, false, false, false, false, false, false, false, false, false, false, false, false, false, false, false, false, false, false, false, false] ?_
            refine take_ (i := 27) (N := some 110) (v := ?_) (a' := ?_) #[true, true, true, true, true, true, true, true, true, true, true, true, true, true, true, true, true, true, true, true, true, true, true, true, true, true, true, true, false, false, false, false, false, false, false, false, false, false, false, false, false, false, false, false, false, false, false, false, false, false, false, false, false, false, false, false] rfl rfl (take_ofW HT_.out HW_.out (by kernel_rfl)) (fun _ _ _ h => h) (Or.inl ⟨by rfl, ?_⟩) hHeld ?_ ?_
            rotate_left
            ·rintro w' ⟨s0, s1, s2, s3, s4, s5, s6, s7, s8, s9, s10, s11, s12, s13, s14, s15⟩
             go_simp
             with_reducible rfl
            rotate_left
            ·simp only [Act.put, List.setIfInBounds_toArray, List.set_cons_zero, List.set_cons_succ, i64_w, i32_w]
             rfl
            refine take_ (i := 28) (N := some 111) (v := ?_) (a' := ?_) #[true, true, true, true, true, true, true, true, true, true, true, true, true, true, true, true, true, true, true, true, true, true, true, true, true, true, true, true, true, false, false, false, false, false, false, false, false, false, false, false, false, false, false, false, false, false, false, false, false, false, false, false, false, false, false, false] rfl rfl (take_ofW HT_.out HW_.out (by kernel_rfl)) (fun _ _ _ h => h) (Or.inl ⟨by rfl, ?_⟩) hHeld ?_ ?_
            rotate_left
            ·rintro w' ⟨s0, s1, s2, s3, s4, s5, s6, s7, s8, s9, s10, s11, s12, s13, s14, s15⟩
             go_simp
             with_reducible rfl
            rotate_left
            ·simp only [Act.put, List.setIfInBounds_toArray, List.set_cons_zero, List.set_cons_succ, i64_w, i32_w]
             rfl
            refine pu HT_ 29 (some 112) #[true, true, true, true, true, true, true, true, true, true, true, true, true, true, true, true, true, true, true, true, true, true, true, true, true, true, true, true, true, true, false, false, false, false, false, false, false, false, false, false, false, false, false, false, false, false, false, false, false, false, false, false, false, false, false, false] ?_
            refine pu HT_ 30 (some 113) #[true, true, true, true, true, true, true, true, true, true, true, true, true, true, true, true, true, true, true, true, true, true, true, true, true, true, true, true, true, true, true, false, false, false, false, false, false, false, false, false, false, false, false, false, false, false, false, false, false, false, false, false, false, false, false, false] ?_
            refine pu HT_ 31 (some 114) #[true, true, true, true, true, true, true, true, true, true, true, true, true, true, true, true, true, true, true, true, true, true, true, true, true, true, true, true, true, true, true, true, false, false, false, false, false, false, false, false, false, false, false, false, false, false, false, false, false, false, false, false, false, false, false, false] ?_
            refine pu HT_ 32 (some 115) #[true, true, true, true, true, true, true, true, true, true, true, true, true, true, true, true, true, true, true, true, true, true, true, true, true, true, true, true, true, true, true, true, true, false, false, false, false, false, false, false, false, false, false, false, false, false, false, false, false, false, false, false, false, false, false, false] ?_
            refine pu HT_ 33 (some 116) #[true, true, true, true, true, true, true, true, true, true, true, true, true, true, true, true, true, true, true, true, true, true, true, true, true, true, true, true, true, true, true, true, true, true, false, false, false, false, false, false, false, false, false, false, false, false, false, false, false, false, false, false, false, false, false, false] ?_
            refine pu HT_ 34 (some 117) #[true, true, true, true, true, true, true, true, true, true, true, true, true, true, true, true, true, true, true, true, true, true, true, true, true, true, true, true, true, true, true, true, true, true, true, false, false, false, false, false, false, false, false, false, false, false, false, false, false, false, false, false, false, false, false, false] ?_
            refine pu HT_ 35 (some 118) #[true, true, true, true, true, true, true, true, true, true, true, true, true, true, true, true, true, true, true, true, true, true, true, true, true, true, true, true, true, true, true, true, true, true, true, true, false, false, false, false, false, false, false, false, false, false, false, false, false, false, false, false, false, false, false, false] ?_
            refine pu HT_ 36 (some 119) #[true, true, true, true, true, true, true, true, true, true, true, true, true, true, true, true, true, true, true, true, true, true, true, true, true, true, true, true, true, true, true, true, true, true, true, true, true, false, false, false, false, false, false, false, false, false, false, false, false, false, false, false, false, false, false, false] ?_
            refine take_ (i := 37) (N := some 120) (v := ?_) (a' := ?_) #[true, true, true, true, true, true, true, true, true, true, true, true, true, true, true, true, true, true, true, true, true, true, true, true, true, true, true, true, true, true, true, true, true, true, true, true, true, true, false, false, false, false, false, false, false, false, false, false, false, false, false, false, false, false, false, false] rfl rfl (take_ofW HT_.out HW_.out (by kernel_rfl)) (fun _ _ _ h => h) (Or.inl ⟨by rfl, ?_⟩) hHeld ?_ ?_
            rotate_left
            ·rintro w' ⟨s0, s1, s2, s3, s4, s5, s6, s7, s8, s9, s10, s11, s12, s13, s14, s15⟩
             go_simp
             with_reducible rfl
            rotate_left
            ·simp only [Act.put, List.setIfInBounds_toArray, List.set_cons_zero, List.set_cons_succ, i64_w, i32_w]
             rfl
            refine take_ (i := 38) (N := some 121) (v := ?_) (a' := ?_) #[true, true, true, true, true, true, true, true, true, true, true, true, true, true, true, true, true, true, true, true, true, true, true, true, true, true, true, true, true, true, true, true, true, true, true, true, true, true, true, false, false, false, false, false, false, false, false, false, false, false, false, false, false, false, false, false] rfl rfl (take_ofW HT_.out HW_.out (by kernel_rfl)) (fun _ _ _ h => h) (Or.inl ⟨by rfl, ?_⟩) hHeld ?_ ?_
            rotate_left
            ·rintro w' ⟨s0, s1, s2, s3, s4, s5, s6, s7, s8, s9, s10, s11, s12, s13, s14, s15⟩
             go_simp
             with_reducible rfl
            rotate_left
            ·simp only [Act.put, List.setIfInBounds_toArray, List.set_cons_zero, List.set_cons_succ, i64_w, i32_w]
             rfl
            refine pu HT_ 39 (some 122) #[true, true, true, true, true, true, true, true, true, true, true, true, true, true, true, true, true, true, true, true, true, true, true, true, true, true, true, true, true, true, true, true, true, true, true, true, true, true, true, true, false, false, false, false, false, false, false, false, false, false, false, false, false, false, false, false] ?_
            refine pu HT_ 40 (some 123) #[true, true, true, true, true, true, true, true, true, true, true, true, true, true, true, true, true, true, true, true, true, true, true, true, true, true, true, true, true, true, true, true, true, true, true, true, true, true, true, true, true, false, false, false, false, false, false, false, false, false, false, false, false, false, false, false] ?_
            refine pu HT_ 41 (some 124) #[true, true, true, true, true, true, true, true, true, true, true, true, true, true, true, true, true, true, true, true, true, true, true, true, true, true, true, true, true, true, true, true, true, true, true, true, true, true, true, true, true, true, false, false, false, false, false, false, false, false, false, false, false, false, false, false] ?_
            refine pu HT_ 42 (some 125) #[true, true, true, true, true, true, true, true, true, true, true, true, true, true, true, true, true, true, true, true, true, true, true, true, true, true, true, true, true, true, true, true, true, true, true, true, true, true, true, true, true, true, true, false, false, false, false, false, false, false, false, false, false, false, false, false] ?_
            refine pu HT_ 43 (some 126) #[true, true, true, true, true, true, true, true, true, true, true, true, true, true, true, true, true, true, true, true, true, true, true, true, true, true, true, true, true, true, true, true, true, true, true, true, true, true, true, true, true, true, true, true, false, false, false, false, false, false, false, false, false, false, false, false] ?_
            refine pu HT_ 44 (some 127) #[true, true, true, true, true, true, true, true, true, true, true, true, true, true, true, true, true, true, true, true, true, true, true, true, true, true, true, true, true, true, true, true, true, true, true, true, true, true, true, true, true, true, true, true, true, false, false, false, false, false, false, false, false, false, false, false] ?_
            refine pu HT_ 45 (some 128) #[true, true, true, true, true, true, true, true, true, true, true, true, true, true, true, true, true, true, true, true, true, true, true, true, true, true, true, true, true, true, true, true, true, true, true, true, true, true, true, true, true, true, true, true, true, true, false, false, false, false, false, false, false, false, false, false] ?_
            refine pu HT_ 46 (some 129) #[true, true, true, true, true, true, true, true, true, true, true, true, true, true, true, true, true, true, true, true, true, true, true, true, true, true, true, true, true, true, true, true, true, true, true, true, true, true, true, true, true, true, true, true, true, true, true, false, false, false, false, false, false, false, false, false] ?_
            refine take_ (i := 47) (N := some 130) (v := ?_) (a' := ?_) #[true, true, true, true, true, true, true, true, true, true, true, true, true, true, true, true, true, true, true, true, true, true, true, true, true, true, true, true, true, true, true, true, true, true, true, true, true, true, true, true, true, true, true, true, true, true, true, true, false, false, false, false, false, false, false, false] rfl rfl (take_ofW HT_.out HW_.out (by kernel_rfl)) (fun _ _ _ h => h) (Or.inl ⟨by rfl, ?_⟩) hHeld ?_ ?_
            rotate_left
            ·rintro w' ⟨s0, s1, s2, s3, s4, s5, s6, s7, s8, s9, s10, s11, s12, s13, s14, s15⟩
             go_simp
             with_reducible rfl
            rotate_left
            ·simp only [Act.put, List.setIfInBounds_toArray, List.set_cons_zero, List.set_cons_succ, i64_w, i32_w]
             rfl
            refine take_ (i := 48) (N := some 131) (v := ?_) (a' := ?_) #[true, true, true, true, true, true, true, true, true, true, true, true, true, true, true, true, true, true, true, true, true, true, true, true, true, true, true, true, true, true, true, true, true, true, true, true, true, true, true, true, true, true, true, true, true, true, true, true, true, false, false, false, false, false, false, false] rfl rfl (take_ofW HT_.out HW_.out (by kernel_rfl)) (fun _ _ _ h => h) (Or.inl ⟨by rfl, ?_⟩) hHeld ?_ ?_
            rotate_left
            ·rintro w' ⟨s0, s1, s2, s3, s4, s5, s6, s7, s8, s9, s10, s11, s12, s13, s14, s15⟩
             go_simp
             with_reducible rfl
            rotate_left
            ·simp only [Act.put, List.setIfInBounds_toArray, List.set_cons_zero, List.set_cons_succ, i64_w, i32_w]
             rfl
            refine take_ (i := 50) (N := some 133) (v := ?_) (a' := ?_) #[true, true, true, true, true, true, true, true, true, true, true, true, true, true, true, true, true, true, true, true, true, true, true, true, true, true, true, true, true, true, true, true, true, true, true, true, true, true, true, true, true, true, true, true, true, true, true, true, true, false, true, false, false, false, false, false] rfl rfl (take_ofW HT_.out HW_.out (by kernel_rfl)) (fun _ _ _ h => h) (Or.inl ⟨by rfl, ?_⟩) hHeld ?_ ?_
            rotate_left
            ·rintro w' ⟨s0, s1, s2, s3, s4, s5, s6, s7, s8, s9, s10, s11, s12, s13, s14, s15⟩
             go_simp
             with_reducible rfl
            rotate_left
            ·simp only [Act.put, List.setIfInBounds_toArray, List.set_cons_zero, List.set_cons_succ, i64_w, i32_w]
             rfl
            refine take_ (i := 51) (N := some 134) (v := ?_) (a' := ?_) #[true, true, true, true, true, true, true, true, true, true, true, true, true, true, true, true, true, true, true, true, true, true, true, true, true, true, true, true, true, true, true, true, true, true, true, true, true, true, true, true, true, true, true, true, true, true, true, true, true, false, true, true, false, false, false, false] rfl rfl (take_ofW HT_.out HW_.out (by kernel_rfl)) (fun _ _ _ h => h) (Or.inl ⟨by rfl, ?_⟩) hHeld ?_ ?_
            rotate_left
            ·rintro w' ⟨s0, s1, s2, s3, s4, s5, s6, s7, s8, s9, s10, s11, s12, s13, s14, s15⟩
             go_simp
             with_reducible rfl
            rotate_left
            ·simp only [Act.put, List.setIfInBounds_toArray, List.set_cons_zero, List.set_cons_succ, i64_w, i32_w]
             rfl
            refine one_ (i := 49) (N := some 132) #[true, true, true, true, true, true, true, true, true, true, true, true, true, true, true, true, true, true, true, true, true, true, true, true, true, true, true, true, true, true, true, true, true, true, true, true, true, true, true, true, true, true, true, true, true, true, true, true, true, true, true, true, false, false, false, false] rfl rfl (one_of HT_.out (by kernel_rfl)) (by decide) (fun K hK => ?_)
            refine goes_ Try.func19 (by kernel_rfl) rfl #[.agg #[.int .i64 a1_0, .int .i64 a1_1], .agg #[.int .i64 a2_0, .int .i64 a2_1]] (by rfl) rfl rfl (by (try simp only [List.map_toArray, List.map_cons, List.map_nil]); first | done | rfl | (simp only [List.length_drop, List.length_take]; rfl)) ?_
            with_reducible refine (smear_Less.calls a1_0 a1_1 a2_0 a2_1 t724 _ A27.out).mono ?_
            rintro e w90 ⟨rfl, hb⟩
            refine ⟨_, rfl, ?_⟩
            have n0_ := kb BK691 hb
            have n1_ := kb BK692 hb
            have n2_ := kb BK703 hb
            have n3_ := kb BK707 hb
            have n4_ := kb BK711 hb
            have n5_ := kb BK715 hb
            have n6_ := kb BK719 hb
            have n7_ := kb BK723 hb
            have n8_ := bs HB hb
            clear BK691
            clear BK692
            clear BK703
            clear BK707
            clear BK711
            clear BK715
            clear BK719
            clear BK723
            clear HB
            have BK691 := n0_
            have BK692 := n1_
            have BK703 := n2_
            have BK707 := n3_
            have BK711 := n4_
            have BK715 := n5_
            have BK719 := n6_
            have BK723 := n7_
            have HB := n8_
            clear n0_ n1_ n2_ n3_ n4_ n5_ n6_ n7_ n8_
            (try clear hb)
            (try clear hb2)
            (try clear hk)
            (try clear hi)
            refine hK.out _ _ ⟨(blk_cell BK703.out 0).trans rfl, (blk_cell BK703.out 1).trans rfl, (blk_cell BK707.out 0).trans rfl, (blk_cell BK707.out 1).trans rfl, (blk_cell BK711.out 0).trans rfl, (blk_cell BK711.out 1).trans rfl, (blk_cell BK715.out 0).trans rfl, (blk_cell BK715.out 1).trans rfl, (blk_cell BK719.out 0).trans rfl, (blk_cell BK719.out 1).trans rfl, (blk_cell BK723.out 0).trans rfl, (blk_cell BK723.out 1).trans rfl, (blk_cell BK691.out 0).trans rfl, (blk_cell BK691.out 1).trans rfl, (blk_cell BK692.out 0).trans rfl, (blk_cell BK692.out 1).trans rfl⟩ (fun hHeld => ?_)
            clear hK K
            refine norm_ (a' := ?_) ?_ ?_
            rotate_left
            ·show Act.put _ (some 132) _ = _
             simp only [Act.put, List.setIfInBounds_toArray, List.set_cons_zero, List.set_cons_succ, i64_w, i32_w]
             rfl
            refine one_ (i := 52) (N := some 135) #[true, true, true, true, true, true, true, true, true, true, true, true, true, true, true, true, true, true, true, true, true, true, true, true, true, true, true, true, true, true, true, true, true, true, true, true, true, true, true, true, true, true, true, true, true, true, true, true, true, true, true, true, true, false, false, false] rfl rfl (one_of HT_.out (by kernel_rfl)) (by decide) (fun K hK => ?_)
            refine goes_ Try.func20 (by kernel_rfl) rfl #[.agg #[.int .i64 a1_0, .int .i64 a1_1], .agg #[.int .i64 a2_0, .int .i64 a2_1]] (by rfl) rfl rfl (by (try simp only [List.map_toArray, List.map_cons, List.map_nil]); first | done | rfl | (simp only [List.length_drop, List.length_take]; rfl)) ?_
            with_reducible refine (epactref25_Less.calls a1_0 a1_1 a2_0 a2_1 t725 _ A28.out).mono ?_
            rintro e w91 ⟨rfl, hb⟩
            refine ⟨_, rfl, ?_⟩
            have n0_ := kb BK691 hb
            have n1_ := kb BK692 hb
            have n2_ := kb BK703 hb
            have n3_ := kb BK707 hb
            have n4_ := kb BK711 hb
            have n5_ := kb BK715 hb
            have n6_ := kb BK719 hb
            have n7_ := kb BK723 hb
            have n8_ := bs HB hb
            clear BK691
            clear BK692
            clear BK703
            clear BK707
            clear BK711
            clear BK715
            clear BK719
            clear BK723
            clear HB
            have BK691 := n0_
            have BK692 := n1_
            have BK703 := n2_
            have BK707 := n3_
            have BK711 := n4_
            have BK715 := n5_
            have BK719 := n6_
            have BK723 := n7_
            have HB := n8_
            clear n0_ n1_ n2_ n3_ n4_ n5_ n6_ n7_ n8_
            (try clear hb)
            (try clear hb2)
            (try clear hk)
            (try clear hi)
            refine hK.out _ _ ⟨(blk_cell BK703.out 0).trans rfl, (blk_cell BK703.out 1).trans rfl, (blk_cell BK707.out 0).trans rfl, (blk_cell BK707.out 1).trans rfl, (blk_cell BK711.out 0).trans rfl, (blk_cell BK711.out 1).trans rfl, (blk_cell BK715.out 0).trans rfl, (blk_cell BK715.out 1).trans rfl, (blk_cell BK719.out 0).trans rfl, (blk_cell BK719.out 1).trans rfl, (blk_cell BK723.out 0).trans rfl, (blk_cell BK723.out 1).trans rfl, (blk_cell BK691.out 0).trans rfl, (blk_cell BK691.out 1).trans rfl, (blk_cell BK692.out 0).trans rfl, (blk_cell BK692.out 1).trans rfl⟩ (fun hHeld => ?_)
            clear hK K
            refine norm_ (a' := ?_) ?_ ?_
            rotate_left
            ·show Act.put _ (some 135) _ = _
             simp only [Act.put, List.setIfInBounds_toArray, List.set_cons_zero, List.set_cons_succ, i64_w, i32_w]
             rfl
            refine pu HT_ 53 (some 136) #[true, true, true, true, true, true, true, true, true, true, true, true, true, true, true, true, true, true, true, true, true, true, true, true, true, true, true, true, true, true, true, true, true, true, true, true, true, true, true, true, true, true, true, true, true, true, true, true, true, true, true, true, true, true, false, false] ?_
            refine pu HT_ 54 (some 137) #[true, true, true, true, true, true, true, true, true, true, true, true, true, true, true, true, true, true, true, true, true, true, true, true, true, true, true, true, true, true, true, true, true, true, true, true, true, true, true, true, true, true, true, true, true, true, true, true, true, true, true, true, true, true, true, false] ?_
            refine pu HT_ 55 (some 6) #[true, true, true, true, true, true, true, true, true, true, true, true, true, true, true, true, true, true, true, true, true, true, true, true, true, true, true, true, true, true, true, true, true, true, true, true, true, true, true, true, true, true, true, true, true, true, true, true, true, true, true, true, true, true, true, true] ?_
            refine done_ (done_of HT_.out (by kernel_rfl)) ?_
            try go_wp2
            go_ret
            exact fi HB
           ·rw [if_neg c26] at H
            have c26b0 : (t718 == t722) = false := beq_eq_false_iff_ne.mpr c26
            have c26b1 : (t718 != t722) = true := bne_iff_ne.mpr c26
            exact absurd H (by simp)
          ·rw [if_neg c25] at H
           have c25b0 : (t716 == t720 && (t717 == t721)) = false := by first | (simp; done) | (simp at c25; done) | simpa using c25
           (try (have c25b1 : decide (t716 = t720 && (t717 == t721)) = false := by first | (simp; done) | (simp at c25; done) | simpa using c25))
           (try (have c25b2 : (t716 == t720 && (t717 == t721)) = false := by first | (simp; done) | (simp at c25; done) | simpa using c25))
           (try (have c25b3 : ¬ (t716 = t720 && (t717 == t721)) := by first | (simp; done) | (simp at c25; done) | simpa using c25))
           clear c25
           exact absurd H (by simp)
         ·rw [if_neg c24] at H
          have c24b0 : (t710 == t714) = false := beq_eq_false_iff_ne.mpr c24
          have c24b1 : (t710 != t714) = true := bne_iff_ne.mpr c24
          exact absurd H (by simp)
        ·rw [if_neg c23] at H
         have c23b0 : (t708 == t712 && (t709 == t713)) = false := by first | (simp; done) | (simp at c23; done) | simpa using c23
         (try (have c23b1 : decide (t708 = t712 && (t709 == t713)) = false := by first | (simp; done) | (simp at c23; done) | simpa using c23))
         (try (have c23b2 : (t708 == t712 && (t709 == t713)) = false := by first | (simp; done) | (simp at c23; done) | simpa using c23))
         (try (have c23b3 : ¬ (t708 = t712 && (t709 == t713)) := by first | (simp; done) | (simp at c23; done) | simpa using c23))
         clear c23
         exact absurd H (by simp)
       ·rw [if_neg c22] at H
        have c22b0 : (t702 == t706) = false := beq_eq_false_iff_ne.mpr c22
        have c22b1 : (t702 != t706) = true := bne_iff_ne.mpr c22
        exact absurd H (by simp)
      ·rw [if_neg c21] at H
       have c21b0 : (t700 == t704 && (t701 == t705)) = false := by first | (simp; done) | (simp at c21; done) | simpa using c21
       (try (have c21b1 : decide (t700 = t704 && (t701 == t705)) = false := by first | (simp; done) | (simp at c21; done) | simpa using c21))
       (try (have c21b2 : (t700 == t704 && (t701 == t705)) = false := by first | (simp; done) | (simp at c21; done) | simpa using c21))
       (try (have c21b3 : ¬ (t700 = t704 && (t701 == t705)) := by first | (simp; done) | (simp at c21; done) | simpa using c21))
       clear c21
       exact absurd H (by simp)
     ·rw [if_neg c20] at H
      have c20b0 : (t696 == t699) = false := by first | (simp; done) | (simp at c20; done) | simpa using c20
      (try (have c20b1 : decide (t696 = t699) = false := by first | (simp; done) | (simp at c20; done) | simpa using c20))
      (try (have c20b2 : (t696 == t699) = false := by first | (simp; done) | (simp at c20; done) | simpa using c20))
      (try (have c20b3 : ¬ (t696 = t699) := by first | (simp; done) | (simp at c20; done) | simpa using c20))
      clear c20
      exact absurd H (by simp)
    ·rw [if_neg c19] at H
     have c19b0 : (t695 == t698) = false := beq_eq_false_iff_ne.mpr c19
     have c19b1 : (t695 != t698) = true := bne_iff_ne.mpr c19
     exact absurd H (by simp)
   ·rw [if_neg c18] at H
    have c18b0 : (t694 == t697) = false := beq_eq_false_iff_ne.mpr c18
    have c18b1 : (t694 != t697) = true := bne_iff_ne.mpr c18
    exact absurd H (by simp)
  ·replace c17 := Bool.eq_false_iff.mpr c17
   subst c17
   rw [if_neg (show ¬ (false = true) by decide)] at H
   exact absurd H (by simp)

end Go.Proofs.Ythoigncoojcanaa.PAll
