-- Written for this claim by wip/tools of this repo (after the kit's print; own contracts laid in).
import Derived.Test.YthoigncoojcanaaPAllx0
import Derived.Test.YthoigncoojcanaaShort
import Derived.Test.YthoigncoojcanaaPAllx1
import Derived.Test.YthoigncoojcanaaPAllx5
import Derived.Test.YthoigncoojcanaaPAllx6
import Derived.Test.YthoigncoojcanaaPAllx8
import Derived.Test.YthoigncoojcanaaPAllx9
namespace Go.Proofs.Ythoigncoojcanaa.PAll
open Go.RowKit Go.Proofs.YthoigncoojcanaaW.PrintWords Go.Proofs.YthoigncoojcanaaW.PrintLast Go.Proofs.YthoigncoojcanaaW.PrintMore
attribute [local go_sem] max2_int min2_int max_two min_two max_three min_three max_four min_four   -- for this text's walks alone
set_option linter.unusedVariables false
set_option linter.unusedSimpArgs false

attribute [local go_sem high] eqA24
/-! ### epactlaw25_small: function 10 -/
def epactlaw25_small.f (k : Nat)  : Option (Bool) := (some (([(⟨78796800, 1⟩ : S53)] : List (S53)) : List (S53))).bind fun y278 => ((smear_Window.f k y278 15724800).bind fun bt281 => ((smear_Window.f k y278 15681599).bind fun bt284 => ((smear_Smear.f k y278 15724800 0).bind fun bt287 => ((smear_Smear.f k y278 15681600 0).bind fun bt291 => ((smear_Smear.f k y278 15768001 5).bind fun bt295 => ((smear_Unsmear.f k y278 bt287.1 bt287.2.1).bind fun bt299 => ((smear_Unsmear.f k y278 78753600 0).bind fun bt303 => ((smear_Plain.f k y278 15724800 7).bind fun bt307 => ((smear_Smear.f k y278 0 (-1)).bind fun bt311 => ((smear_Smear.f k y278 (-1) 0).bind fun bt315 => (if bt281.1 = 15681600 then (if bt281.2.1 = 86401 then (if bt281.2.2 = true then (if bt284.2.2 = true then (none) else (if (bt287.1 == 78796799 && (bt287.2.1 == 500005786)) = true then (if bt287.2.2 = 0 then (if (bt291.1 == 78753600 && (bt291.2.1 == 0)) = true then (if bt291.2.2 = 0 then (if (bt295.1 == 78840000 && (bt295.2.1 == 5)) = true then (if bt295.2.2 = 0 then (if bt299.1 = 15724800 then (if bt299.2.1 ≤ 1 then (if bt299.2.2 = 0 then (if (bt303.1 == 15681600 && (bt303.2.1 == 0)) = true then (if bt303.2.2 = 0 then (if (bt307.1 == 78796799 && (bt307.2.1 == 7)) = true then (if bt307.2.2 = 0 then (if bt311.2.2 = 1 then (if bt315.2.2 = 9 then ((smear_Less.f bt291.1 bt291.2.1 bt287.1 bt287.2.1).bind fun t319 => (if t319 = true then ((smear_Less.f bt287.1 bt287.2.1 bt287.1 bt287.2.1).bind fun t320 => (some (!t320))) else (none))) else (none)) else (none)) else (none)) else (none)) else (none)) else (none)) else (none)) else (none)) else (none)) else (none)) else (none)) else (none)) else (none)) else (none)) else (none))) else (none)) else (none)) else (none))))))))))))
theorem epactlaw25_small.mono : ∀ k, LeO (epactlaw25_small.f k ) (epactlaw25_small.f (k + 1) ) := by
 intro  k
 unfold epactlaw25_small.f
 repeat' first
   | (with_reducible exact smear_Plain.mono _ _ _ _)
   | (with_reducible exact smear_Smear.mono _ _ _ _)
   | (with_reducible exact smear_Unsmear.mono _ _ _ _)
   | (with_reducible exact smear_Window.mono _ _ _)
   | (with_reducible exact LeO.refl _)
   | (with_reducible exact LeO.none _)
   | (with_reducible refine LeO.ite ?_ ?_)
   | (with_reducible refine LeO.bind ?_ (fun _ => ?_))
set_option maxHeartbeats 8000000 in
set_option maxRecDepth 100000 in
theorem epactlaw25_small.calls (k : Nat)  (r : Bool) (w : World) (h : epactlaw25_small.f k  = some r) :
  Calls Try.prog 10 #[] w fun e w' => e = .returned (.bool r) ∧ Below w.heap.size w w' := by
 have hu53 := Try.underlying53
 have hu24 := Try.underlying24
 have HB := Aside0.mk (Below.refl w.heap.size w)
 have H : ((some (([(⟨78796800, 1⟩ : S53)] : List (S53)) : List (S53))).bind fun y278 => ((smear_Window.f k y278 15724800).bind fun bt281 => ((smear_Window.f k y278 15681599).bind fun bt284 => ((smear_Smear.f k y278 15724800 0).bind fun bt287 => ((smear_Smear.f k y278 15681600 0).bind fun bt291 => ((smear_Smear.f k y278 15768001 5).bind fun bt295 => ((smear_Unsmear.f k y278 bt287.1 bt287.2.1).bind fun bt299 => ((smear_Unsmear.f k y278 78753600 0).bind fun bt303 => ((smear_Plain.f k y278 15724800 7).bind fun bt307 => ((smear_Smear.f k y278 0 (-1)).bind fun bt311 => ((smear_Smear.f k y278 (-1) 0).bind fun bt315 => (if bt281.1 = 15681600 then (if bt281.2.1 = 86401 then (if bt281.2.2 = true then (if bt284.2.2 = true then (none) else (if (bt287.1 == 78796799 && (bt287.2.1 == 500005786)) = true then (if bt287.2.2 = 0 then (if (bt291.1 == 78753600 && (bt291.2.1 == 0)) = true then (if bt291.2.2 = 0 then (if (bt295.1 == 78840000 && (bt295.2.1 == 5)) = true then (if bt295.2.2 = 0 then (if bt299.1 = 15724800 then (if bt299.2.1 ≤ 1 then (if bt299.2.2 = 0 then (if (bt303.1 == 15681600 && (bt303.2.1 == 0)) = true then (if bt303.2.2 = 0 then (if (bt307.1 == 78796799 && (bt307.2.1 == 7)) = true then (if bt307.2.2 = 0 then (if bt311.2.2 = 1 then (if bt315.2.2 = 9 then ((smear_Less.f bt291.1 bt291.2.1 bt287.1 bt287.2.1).bind fun t319 => (if t319 = true then ((smear_Less.f bt287.1 bt287.2.1 bt287.1 bt287.2.1).bind fun t320 => (some (!t320))) else (none))) else (none)) else (none)) else (none)) else (none)) else (none)) else (none)) else (none)) else (none)) else (none)) else (none)) else (none)) else (none)) else (none)) else (none)) else (none))) else (none)) else (none)) else (none))))))))))))) = some r := h
 clear h
 obtain ⟨y278, hy278⟩ : ∃ y_ : List (S53), y_ = (([(⟨78796800, 1⟩ : S53)] : List (S53))) := ⟨_, rfl⟩
 replace H : ((smear_Window.f k y278 15724800).bind fun bt281 => ((smear_Window.f k y278 15681599).bind fun bt284 => ((smear_Smear.f k y278 15724800 0).bind fun bt287 => ((smear_Smear.f k y278 15681600 0).bind fun bt291 => ((smear_Smear.f k y278 15768001 5).bind fun bt295 => ((smear_Unsmear.f k y278 bt287.1 bt287.2.1).bind fun bt299 => ((smear_Unsmear.f k y278 78753600 0).bind fun bt303 => ((smear_Plain.f k y278 15724800 7).bind fun bt307 => ((smear_Smear.f k y278 0 (-1)).bind fun bt311 => ((smear_Smear.f k y278 (-1) 0).bind fun bt315 => (if bt281.1 = 15681600 then (if bt281.2.1 = 86401 then (if bt281.2.2 = true then (if bt284.2.2 = true then (none) else (if (bt287.1 == 78796799 && (bt287.2.1 == 500005786)) = true then (if bt287.2.2 = 0 then (if (bt291.1 == 78753600 && (bt291.2.1 == 0)) = true then (if bt291.2.2 = 0 then (if (bt295.1 == 78840000 && (bt295.2.1 == 5)) = true then (if bt295.2.2 = 0 then (if bt299.1 = 15724800 then (if bt299.2.1 ≤ 1 then (if bt299.2.2 = 0 then (if (bt303.1 == 15681600 && (bt303.2.1 == 0)) = true then (if bt303.2.2 = 0 then (if (bt307.1 == 78796799 && (bt307.2.1 == 7)) = true then (if bt307.2.2 = 0 then (if bt311.2.2 = 1 then (if bt315.2.2 = 9 then ((smear_Less.f bt291.1 bt291.2.1 bt287.1 bt287.2.1).bind fun t319 => (if t319 = true then ((smear_Less.f bt287.1 bt287.2.1 bt287.1 bt287.2.1).bind fun t320 => (some (!t320))) else (none))) else (none)) else (none)) else (none)) else (none)) else (none)) else (none)) else (none)) else (none)) else (none)) else (none)) else (none)) else (none)) else (none)) else (none)) else (none))) else (none)) else (none)) else (none)))))))))))) = some r := by first | (rw [hy278]; with_reducible exact H) | (have H2_ := (Option.bind_some _ _).symm.trans H; rw [hy278]; with_reducible exact H2_) | (have H2_ := (Option.bind_some _ _).symm.trans H; with_reducible exact H2_) | with_reducible exact H | (rw [hy278]; exact H) | exact H
 have Ny278 := Aside0.mk hy278
 clear hy278
 obtain ⟨⟨t281, t282, t283⟩, A1, H⟩ := bnd H
 try dsimp only at H
 obtain ⟨⟨t284, t285, t286⟩, A2, H⟩ := bnd H
 try dsimp only at H
 obtain ⟨⟨t287, t288, t289⟩, A3, H⟩ := bnd H
 try dsimp only at H
 obtain ⟨⟨t291, t292, t293⟩, A4, H⟩ := bnd H
 try dsimp only at H
 obtain ⟨⟨t295, t296, t297⟩, A5, H⟩ := bnd H
 try dsimp only at H
 obtain ⟨⟨t299, t300, t301⟩, A6, H⟩ := bnd H
 try dsimp only at H
 obtain ⟨⟨t303, t304, t305⟩, A7, H⟩ := bnd H
 try dsimp only at H
 obtain ⟨⟨t307, t308, t309⟩, A8, H⟩ := bnd H
 try dsimp only at H
 obtain ⟨⟨t311, t312, t313⟩, A9, H⟩ := bnd H
 try dsimp only at H
 obtain ⟨⟨t315, t316, t317⟩, A10, H⟩ := bnd H
 try dsimp only at H
 by_cases c11 : t281 = 15681600
 ·rw [if_pos c11] at H
  have c11b0 : (t281 == 15681600) = true := beq_iff_eq.mpr c11
  have c11b1 : (t281 != 15681600) = false := bne_eq_false_iff_eq.mpr c11
  clear c11
  by_cases c12 : t282 = 86401
  ·rw [if_pos c12] at H
   have c12b0 : (t282 == 86401) = true := beq_iff_eq.mpr c12
   have c12b1 : (t282 != 86401) = false := bne_eq_false_iff_eq.mpr c12
   clear c12
   by_cases c13 : t283 = true
   ·subst c13
    rw [if_pos rfl] at H
    by_cases c14 : t286 = true
    ·subst c14
     rw [if_pos rfl] at H
     exact absurd H (by simp)
    ·replace c14 := Bool.eq_false_iff.mpr c14
     subst c14
     rw [if_neg (show ¬ (false = true) by decide)] at H
     by_cases c15 : (t287 == 78796799 && (t288 == 500005786)) = true
     ·rw [if_pos c15] at H
      have c15b0 : (t287 == 78796799 && (t288 == 500005786)) = true := c15
      (try (have c15b1 : decide (t287 = 78796799 && (t288 == 500005786)) = true := by first | (simp; done) | (simp at c15; done) | simpa using c15))
      (try (have c15b2 : (t287 == 78796799 && (t288 == 500005786)) = true := by first | (simp; done) | (simp at c15; done) | simpa using c15))
      clear c15
      by_cases c16 : t289 = 0
      ·rw [if_pos c16] at H
       have c16b0 : (t289 == 0) = true := beq_iff_eq.mpr c16
       have c16b1 : (t289 != 0) = false := bne_eq_false_iff_eq.mpr c16
       clear c16
       by_cases c17 : (t291 == 78753600 && (t292 == 0)) = true
       ·rw [if_pos c17] at H
        have c17b0 : (t291 == 78753600 && (t292 == 0)) = true := c17
        (try (have c17b1 : decide (t291 = 78753600 && (t292 == 0)) = true := by first | (simp; done) | (simp at c17; done) | simpa using c17))
        (try (have c17b2 : (t291 == 78753600 && (t292 == 0)) = true := by first | (simp; done) | (simp at c17; done) | simpa using c17))
        clear c17
        by_cases c18 : t293 = 0
        ·rw [if_pos c18] at H
         have c18b0 : (t293 == 0) = true := beq_iff_eq.mpr c18
         have c18b1 : (t293 != 0) = false := bne_eq_false_iff_eq.mpr c18
         clear c18
         by_cases c19 : (t295 == 78840000 && (t296 == 5)) = true
         ·rw [if_pos c19] at H
          have c19b0 : (t295 == 78840000 && (t296 == 5)) = true := c19
          (try (have c19b1 : decide (t295 = 78840000 && (t296 == 5)) = true := by first | (simp; done) | (simp at c19; done) | simpa using c19))
          (try (have c19b2 : (t295 == 78840000 && (t296 == 5)) = true := by first | (simp; done) | (simp at c19; done) | simpa using c19))
          clear c19
          by_cases c20 : t297 = 0
          ·rw [if_pos c20] at H
           have c20b0 : (t297 == 0) = true := beq_iff_eq.mpr c20
           have c20b1 : (t297 != 0) = false := bne_eq_false_iff_eq.mpr c20
           clear c20
           by_cases c21 : t299 = 15724800
           ·rw [if_pos c21] at H
            have c21b0 : (t299 == 15724800) = true := beq_iff_eq.mpr c21
            have c21b1 : (t299 != 15724800) = false := bne_eq_false_iff_eq.mpr c21
            clear c21
            by_cases c22 : t300 ≤ 1
            ·rw [if_pos c22] at H
             have c22b0 : decide (t300 ≤ 1) = true := decide_eq_true c22
             clear c22
             by_cases c23 : t301 = 0
             ·rw [if_pos c23] at H
              have c23b0 : (t301 == 0) = true := beq_iff_eq.mpr c23
              have c23b1 : (t301 != 0) = false := bne_eq_false_iff_eq.mpr c23
              clear c23
              by_cases c24 : (t303 == 15681600 && (t304 == 0)) = true
              ·rw [if_pos c24] at H
               have c24b0 : (t303 == 15681600 && (t304 == 0)) = true := c24
               (try (have c24b1 : decide (t303 = 15681600 && (t304 == 0)) = true := by first | (simp; done) | (simp at c24; done) | simpa using c24))
               (try (have c24b2 : (t303 == 15681600 && (t304 == 0)) = true := by first | (simp; done) | (simp at c24; done) | simpa using c24))
               clear c24
               by_cases c25 : t305 = 0
               ·rw [if_pos c25] at H
                have c25b0 : (t305 == 0) = true := beq_iff_eq.mpr c25
                have c25b1 : (t305 != 0) = false := bne_eq_false_iff_eq.mpr c25
                clear c25
                by_cases c26 : (t307 == 78796799 && (t308 == 7)) = true
                ·rw [if_pos c26] at H
                 have c26b0 : (t307 == 78796799 && (t308 == 7)) = true := c26
                 (try (have c26b1 : decide (t307 = 78796799 && (t308 == 7)) = true := by first | (simp; done) | (simp at c26; done) | simpa using c26))
                 (try (have c26b2 : (t307 == 78796799 && (t308 == 7)) = true := by first | (simp; done) | (simp at c26; done) | simpa using c26))
                 clear c26
                 by_cases c27 : t309 = 0
                 ·rw [if_pos c27] at H
                  have c27b0 : (t309 == 0) = true := beq_iff_eq.mpr c27
                  have c27b1 : (t309 != 0) = false := bne_eq_false_iff_eq.mpr c27
                  clear c27
                  by_cases c28 : t313 = 1
                  ·rw [if_pos c28] at H
                   have c28b0 : (t313 == 1) = true := beq_iff_eq.mpr c28
                   have c28b1 : (t313 != 1) = false := bne_eq_false_iff_eq.mpr c28
                   clear c28
                   by_cases c29 : t317 = 9
                   ·rw [if_pos c29] at H
                    have c29b0 : (t317 == 9) = true := beq_iff_eq.mpr c29
                    have c29b1 : (t317 != 9) = false := bne_eq_false_iff_eq.mpr c29
                    clear c29
                    obtain ⟨t319, A30, H⟩ := bnd H
                    try dsimp only at H
                    by_cases c31 : t319 = true
                    ·subst c31
                     rw [if_pos rfl] at H
                     obtain ⟨t320, A32, H⟩ := bnd H
                     try dsimp only at H
                     obtain rfl := Option.some.inj H
                     go_enter Try.func10, Try.ntmps10
                     go_wp2_with (first | ((with_reducible refine gate_dst (N := 25) rfl ?_); refine Kd.R_lit k53 _ 53 ?hg (N := 25) ?hd (xs := ([(⟨78796800, 1⟩ : S53)] : List (S53))) (inner := [.int .i64 78796800, .int .i64 1]) (ok := fun _ => True) (okp := fun _ => True) ?hr ?hp (fun _ hk => hk) trivial (Below.refl _ _) (Nat.le_refl _) (by simp) ?_; (case hd => rfl); (case hg => rfl); (case hr => first | (go_simp; done) | (go_simp; rfl)); (case hp => exact (Reps.c2 (show Kd.M k53 _ _ _ (⟨78796800, 1⟩ : S53) [.int .i64 78796800, .int .i64 1] from (k53_mkM _ _ _ (⟨78796800, 1⟩ : S53) )) (Reps.none _ _))); intro v279 w33 ho34 hb hg_ hnew_; clear hg_ hnew_; (first | rw [← Ny278.out] at ho34 | (simp only [Int.reduceToNat] at ho34; rw [← Ny278.out] at ho34)); have HO280 := lw ho34 HB; replace HB := bs HB hb; clear hb ho34; obtain ⟨Ao35, co35, eo35⟩ := Kd.R_slice HO280.out; subst eo35) | (refine gM (some 28) Try.func11 #[.slice Ao35 y278.length co35, .int .i64 15724800] (smear_Window.calls k _ _ y278 15724800 t281 t282 true _ ?side1 ?side2 A1.out) ?_; (case side1 => repeat (first | exact (Kd.R_reads' HO280.out).2.2 | (with_reducible refine Kd.C_alloc ?_ _) | (with_reducible refine Kd.C_drewN ?_ _) | (with_reducible refine Kd.C_drew ?_))); (case side2 => exact (Kd.R_reads' HO280.out).2.1); intro w36 hb; replace HO280 := rb HO280 hb; replace HB := bs HB hb; (try clear hb); (try clear hb2); (try clear hk); (try clear hi)) | (refine gM (some 34) Try.func11 #[.slice Ao35 y278.length co35, .int .i64 15681599] (smear_Window.calls k _ _ y278 15681599 t284 t285 false _ ?side1 ?side2 A2.out) ?_; (case side1 => repeat (first | exact (Kd.R_reads' HO280.out).2.2 | (with_reducible refine Kd.C_alloc ?_ _) | (with_reducible refine Kd.C_drewN ?_ _) | (with_reducible refine Kd.C_drew ?_))); (case side2 => exact (Kd.R_reads' HO280.out).2.1); intro w37 hb; replace HO280 := rb HO280 hb; replace HB := bs HB hb; (try clear hb); (try clear hb2); (try clear hk); (try clear hi)) | (refine gM (some 41) Try.func13 #[.slice Ao35 y278.length co35, .agg #[.int .i64 15724800, .int .i64 0]] (smear_Smear.calls k _ _ y278 15724800 0 t287 t288 t289 _ ?side1 ?side2 A3.out) ?_; (case side1 => repeat (first | exact (Kd.R_reads' HO280.out).2.2 | (with_reducible refine Kd.C_alloc ?_ _) | (with_reducible refine Kd.C_drewN ?_ _) | (with_reducible refine Kd.C_drew ?_))); (case side2 => exact (Kd.R_reads' HO280.out).2.1); intro w38 hb; replace HO280 := rb HO280 hb; replace HB := bs HB hb; (try clear hb); (try clear hb2); (try clear hk); (try clear hi)) | ((with_reducible refine gate_dst (N := 8) rfl ?_); refine bx 8 #[.int .i64 0, .int .i64 0] 24 ?_; intro gb290 hg w39 hbox hb; have n2_ := Aside0.mk (hbox); have GW290 := gw HB hg; have GE290 := gw HB hg; replace HO280 := rb HO280 hb; replace HB := bs HB hb; have BK290 := n2_; clear n2_; clear hb hbox hg; have hcz40_0 := bc BK290 0; have hcz40_1 := bc BK290 1; have hfz40_0 := bf BK290 0; have hfz40_1 := bf BK290 1) | (refine gM (some 47) Try.func13 #[.slice Ao35 y278.length co35, .agg #[.int .i64 15681600, .int .i64 0]] (smear_Smear.calls k _ _ y278 15681600 0 t291 t292 t293 _ ?side1 ?side2 A4.out) ?_; (case side1 => refine (Kd.R_reads' (e := 53) (base := w.heap.size) (ok := fun k_ => True) (n := y278.length) (c := co35) ?_).2.2; exact (by (with_reducible repeat (first | apply Kd.R_alloc | apply Kd.R_drewN | apply Kd.R_drew)); exact (Kd.R_mono (Kd.R_far (p := ⟨gb290, 1, none⟩) (Kd.R_far (p := ⟨gb290, 0, none⟩) (Kd.R_types HO280.out BK290.out (by decide)) (fun _ hk => hk.2) (.int .i64 t287)) (fun _ hk => hk.2) (.int .i64 t288)) (fun _ h_ => h_.1)))); (case side2 => exact (Kd.R_reads' HO280.out).2.1); intro w41 hb; have n0_ := Aside0.mk (Kd.R_below (by (with_reducible repeat (first | apply Kd.R_alloc | apply Kd.R_drewN | apply Kd.R_drew)); exact (Kd.R_mono (Kd.R_far (p := ⟨gb290, 1, none⟩) (Kd.R_far (p := ⟨gb290, 0, none⟩) (Kd.R_types HO280.out BK290.out (by decide)) (fun _ hk => hk.2) (.int .i64 t287)) (fun _ hk => hk.2) (.int .i64 t288)) (fun _ h_ => h_.1))) hb); have n1_ := Aside0.mk (blk_below (g := gb290) (o := .cells #[.int .i64 t287, .int .i64 t288] 24 (0, 0)) (by (with_reducible repeat (first | refine blk_drewN ?_ _ | refine blk_drew ?_ | refine blk_alloc ?_ _)); refine blk_put (cs := #[.int .i64 t287, .int .i64 0]) ?_ 1 _ rfl; (with_reducible repeat (first | refine blk_drewN ?_ _ | refine blk_drew ?_ | refine blk_alloc ?_ _)); refine blk_put (cs := #[.int .i64 0, .int .i64 0]) ?_ 0 _ rfl; (with_reducible repeat (first | refine blk_drewN ?_ _ | refine blk_drew ?_ | refine blk_alloc ?_ _)); exact BK290.out) hb); replace HB := bs HB hb; clear HO280; clear BK290; have HO280 := n0_; have BK290 := n1_; clear n0_ n1_; (try clear hb); (try clear hb2); (try clear hk); (try clear hi)) | ((with_reducible refine gate_dst (N := 10) rfl ?_); refine bx 10 #[.int .i64 0, .int .i64 0] 24 ?_; intro gb294 hg w42 hbox hb; have n3_ := Aside0.mk (hbox); have GW294 := gw HB hg; have GE294 := gw HB hg; have NB290_294 := nl BK290 hg; have NB294_290 := nr BK290 hg; replace HO280 := rb HO280 hb; replace BK290 := kb BK290 hb; replace HB := bs HB hb; have BK294 := n3_; clear n3_; clear hb hbox hg; have hnb43 := NB294_290.out; have hnc43 := NB290_294.out; have hcz44_0 := bc BK294 0; have hcz44_1 := bc BK294 1; have hfz44_0 := bf BK294 0; have hfz44_1 := bf BK294 1) | (refine gM (some 53) Try.func13 #[.slice Ao35 y278.length co35, .agg #[.int .i64 15768001, .int .i64 5]] (smear_Smear.calls k _ _ y278 15768001 5 t295 t296 t297 _ ?side1 ?side2 A5.out) ?_; (case side1 => refine (Kd.R_reads' (e := 53) (base := w.heap.size) (ok := fun k_ => True) (n := y278.length) (c := co35) ?_).2.2; exact (by (with_reducible repeat (first | apply Kd.R_alloc | apply Kd.R_drewN | apply Kd.R_drew)); exact (Kd.R_mono (Kd.R_far (p := ⟨gb294, 1, none⟩) (Kd.R_far (p := ⟨gb294, 0, none⟩) (Kd.R_types HO280.out BK294.out (by decide)) (fun _ hk => hk.2) (.int .i64 t291)) (fun _ hk => hk.2) (.int .i64 t292)) (fun _ h_ => h_.1)))); (case side2 => exact (Kd.R_reads' HO280.out).2.1); intro w45 hb; have n0_ := Aside0.mk (Kd.R_below (by (with_reducible repeat (first | apply Kd.R_alloc | apply Kd.R_drewN | apply Kd.R_drew)); exact (Kd.R_mono (Kd.R_far (p := ⟨gb294, 1, none⟩) (Kd.R_far (p := ⟨gb294, 0, none⟩) (Kd.R_types HO280.out BK294.out (by decide)) (fun _ hk => hk.2) (.int .i64 t291)) (fun _ hk => hk.2) (.int .i64 t292)) (fun _ h_ => h_.1))) hb); have n1_ := kf BK290 hb; have n2_ := Aside0.mk (blk_below (g := gb294) (o := .cells #[.int .i64 t291, .int .i64 t292] 24 (0, 0)) (by (with_reducible repeat (first | refine blk_drewN ?_ _ | refine blk_drew ?_ | refine blk_alloc ?_ _)); refine blk_put (cs := #[.int .i64 t291, .int .i64 0]) ?_ 1 _ rfl; (with_reducible repeat (first | refine blk_drewN ?_ _ | refine blk_drew ?_ | refine blk_alloc ?_ _)); refine blk_put (cs := #[.int .i64 0, .int .i64 0]) ?_ 0 _ rfl; (with_reducible repeat (first | refine blk_drewN ?_ _ | refine blk_drew ?_ | refine blk_alloc ?_ _)); exact BK294.out) hb); replace HB := bs HB hb; clear HO280; clear BK290; clear BK294; have HO280 := n0_; have BK290 := n1_; have BK294 := n2_; clear n0_ n1_ n2_; (try clear hb); (try clear hb2); (try clear hk); (try clear hi)) | ((with_reducible refine gate_dst (N := 12) rfl ?_); refine bx 12 #[.int .i64 0, .int .i64 0] 24 ?_; intro gb298 hg w46 hbox hb; have n4_ := Aside0.mk (hbox); have GW298 := gw HB hg; have GE298 := gw HB hg; have NB290_298 := nl BK290 hg; have NB298_290 := nr BK290 hg; have NB294_298 := nl BK294 hg; have NB298_294 := nr BK294 hg; replace HO280 := rb HO280 hb; replace BK290 := kb BK290 hb; replace BK294 := kb BK294 hb; replace HB := bs HB hb; have BK298 := n4_; clear n4_; clear hb hbox hg; have hnb47 := NB298_290.out; have hnc47 := NB290_298.out; have hnb48 := NB298_294.out; have hnc48 := NB294_298.out; have hcz49_0 := bc BK298 0; have hcz49_1 := bc BK298 1; have hfz49_0 := bf BK298 0; have hfz49_1 := bf BK298 1; have hcz50_0 := bc BK290 0; have hcz50_1 := bc BK290 1; have hfz50_0 := bf BK290 0; have hfz50_1 := bf BK290 1) | (refine gM (some 59) Try.func15 #[.slice Ao35 y278.length co35, .agg #[.int .i64 t287, .int .i64 t288]] (smear_Unsmear.calls k _ _ y278 t287 t288 t299 t300 t301 _ ?side1 ?side2 A6.out) ?_; (case side1 => refine (Kd.R_reads' (e := 53) (base := w.heap.size) (ok := fun k_ => True) (n := y278.length) (c := co35) ?_).2.2; exact (by (with_reducible repeat (first | apply Kd.R_alloc | apply Kd.R_drewN | apply Kd.R_drew)); exact (Kd.R_mono (Kd.R_far (p := ⟨gb298, 1, none⟩) (Kd.R_far (p := ⟨gb298, 0, none⟩) (Kd.R_types HO280.out BK298.out (by decide)) (fun _ hk => hk.2) (.int .i64 t295)) (fun _ hk => hk.2) (.int .i64 t296)) (fun _ h_ => h_.1)))); (case side2 => exact (Kd.R_reads' HO280.out).2.1); intro w51 hb; have n0_ := Aside0.mk (Kd.R_below (by (with_reducible repeat (first | apply Kd.R_alloc | apply Kd.R_drewN | apply Kd.R_drew)); exact (Kd.R_mono (Kd.R_far (p := ⟨gb298, 1, none⟩) (Kd.R_far (p := ⟨gb298, 0, none⟩) (Kd.R_types HO280.out BK298.out (by decide)) (fun _ hk => hk.2) (.int .i64 t295)) (fun _ hk => hk.2) (.int .i64 t296)) (fun _ h_ => h_.1))) hb); have n1_ := kf BK290 hb; have n2_ := kf BK294 hb; have n3_ := Aside0.mk (blk_below (g := gb298) (o := .cells #[.int .i64 t295, .int .i64 t296] 24 (0, 0)) (by (with_reducible repeat (first | refine blk_drewN ?_ _ | refine blk_drew ?_ | refine blk_alloc ?_ _)); refine blk_put (cs := #[.int .i64 t295, .int .i64 0]) ?_ 1 _ rfl; (with_reducible repeat (first | refine blk_drewN ?_ _ | refine blk_drew ?_ | refine blk_alloc ?_ _)); refine blk_put (cs := #[.int .i64 0, .int .i64 0]) ?_ 0 _ rfl; (with_reducible repeat (first | refine blk_drewN ?_ _ | refine blk_drew ?_ | refine blk_alloc ?_ _)); exact BK298.out) hb); replace HB := bs HB hb; clear HO280; clear BK290; clear BK294; clear BK298; have HO280 := n0_; have BK290 := n1_; have BK294 := n2_; have BK298 := n3_; clear n0_ n1_ n2_ n3_; (try clear hb); (try clear hb2); (try clear hk); (try clear hi)) | ((with_reducible refine gate_dst (N := 14) rfl ?_); refine bx 14 #[.int .i64 0, .int .i64 0] 24 ?_; intro gb302 hg w52 hbox hb; have n5_ := Aside0.mk (hbox); have GW302 := gw HB hg; have GE302 := gw HB hg; have NB290_302 := nl BK290 hg; have NB302_290 := nr BK290 hg; have NB294_302 := nl BK294 hg; have NB302_294 := nr BK294 hg; have NB298_302 := nl BK298 hg; have NB302_298 := nr BK298 hg; replace HO280 := rb HO280 hb; replace BK290 := kb BK290 hb; replace BK294 := kb BK294 hb; replace BK298 := kb BK298 hb; replace HB := bs HB hb; have BK302 := n5_; clear n5_; clear hb hbox hg; have hnb53 := NB302_290.out; have hnc53 := NB290_302.out; have hnb54 := NB302_294.out; have hnc54 := NB294_302.out; have hnb55 := NB302_298.out; have hnc55 := NB298_302.out; have hcz56_0 := bc BK302 0; have hcz56_1 := bc BK302 1; have hfz56_0 := bf BK302 0; have hfz56_1 := bf BK302 1) | (refine gM (some 65) Try.func15 #[.slice Ao35 y278.length co35, .agg #[.int .i64 78753600, .int .i64 0]] (smear_Unsmear.calls k _ _ y278 78753600 0 t303 t304 t305 _ ?side1 ?side2 A7.out) ?_; (case side1 => refine (Kd.R_reads' (e := 53) (base := w.heap.size) (ok := fun k_ => True) (n := y278.length) (c := co35) ?_).2.2; exact (by (with_reducible repeat (first | apply Kd.R_alloc | apply Kd.R_drewN | apply Kd.R_drew)); exact (Kd.R_mono (Kd.R_far (p := ⟨gb302, 1, none⟩) (Kd.R_far (p := ⟨gb302, 0, none⟩) (Kd.R_types HO280.out BK302.out (by decide)) (fun _ hk => hk.2) (.int .i64 t299)) (fun _ hk => hk.2) (.int .i64 t300)) (fun _ h_ => h_.1)))); (case side2 => exact (Kd.R_reads' HO280.out).2.1); intro w57 hb; have n0_ := Aside0.mk (Kd.R_below (by (with_reducible repeat (first | apply Kd.R_alloc | apply Kd.R_drewN | apply Kd.R_drew)); exact (Kd.R_mono (Kd.R_far (p := ⟨gb302, 1, none⟩) (Kd.R_far (p := ⟨gb302, 0, none⟩) (Kd.R_types HO280.out BK302.out (by decide)) (fun _ hk => hk.2) (.int .i64 t299)) (fun _ hk => hk.2) (.int .i64 t300)) (fun _ h_ => h_.1))) hb); have n1_ := kf BK290 hb; have n2_ := kf BK294 hb; have n3_ := kf BK298 hb; have n4_ := Aside0.mk (blk_below (g := gb302) (o := .cells #[.int .i64 t299, .int .i64 t300] 24 (0, 0)) (by (with_reducible repeat (first | refine blk_drewN ?_ _ | refine blk_drew ?_ | refine blk_alloc ?_ _)); refine blk_put (cs := #[.int .i64 t299, .int .i64 0]) ?_ 1 _ rfl; (with_reducible repeat (first | refine blk_drewN ?_ _ | refine blk_drew ?_ | refine blk_alloc ?_ _)); refine blk_put (cs := #[.int .i64 0, .int .i64 0]) ?_ 0 _ rfl; (with_reducible repeat (first | refine blk_drewN ?_ _ | refine blk_drew ?_ | refine blk_alloc ?_ _)); exact BK302.out) hb); replace HB := bs HB hb; clear HO280; clear BK290; clear BK294; clear BK298; clear BK302; have HO280 := n0_; have BK290 := n1_; have BK294 := n2_; have BK298 := n3_; have BK302 := n4_; clear n0_ n1_ n2_ n3_ n4_; (try clear hb); (try clear hb2); (try clear hk); (try clear hi)) | ((with_reducible refine gate_dst (N := 16) rfl ?_); refine bx 16 #[.int .i64 0, .int .i64 0] 24 ?_; intro gb306 hg w58 hbox hb; have n6_ := Aside0.mk (hbox); have GW306 := gw HB hg; have GE306 := gw HB hg; have NB290_306 := nl BK290 hg; have NB306_290 := nr BK290 hg; have NB294_306 := nl BK294 hg; have NB306_294 := nr BK294 hg; have NB298_306 := nl BK298 hg; have NB306_298 := nr BK298 hg; have NB302_306 := nl BK302 hg; have NB306_302 := nr BK302 hg; replace HO280 := rb HO280 hb; replace BK290 := kb BK290 hb; replace BK294 := kb BK294 hb; replace BK298 := kb BK298 hb; replace BK302 := kb BK302 hb; replace HB := bs HB hb; have BK306 := n6_; clear n6_; clear hb hbox hg; have hnb59 := NB306_290.out; have hnc59 := NB290_306.out; have hnb60 := NB306_294.out; have hnc60 := NB294_306.out; have hnb61 := NB306_298.out; have hnc61 := NB298_306.out; have hnb62 := NB306_302.out; have hnc62 := NB302_306.out; have hcz63_0 := bc BK306 0; have hcz63_1 := bc BK306 1; have hfz63_0 := bf BK306 0; have hfz63_1 := bf BK306 1) | (refine gM (some 71) Try.func17 #[.slice Ao35 y278.length co35, .agg #[.int .i64 15724800, .int .i64 7]] (smear_Plain.calls k _ _ y278 15724800 7 t307 t308 t309 _ ?side1 ?side2 A8.out) ?_; (case side1 => refine (Kd.R_reads' (e := 53) (base := w.heap.size) (ok := fun k_ => True) (n := y278.length) (c := co35) ?_).2.2; exact (by (with_reducible repeat (first | apply Kd.R_alloc | apply Kd.R_drewN | apply Kd.R_drew)); exact (Kd.R_mono (Kd.R_far (p := ⟨gb306, 1, none⟩) (Kd.R_far (p := ⟨gb306, 0, none⟩) (Kd.R_types HO280.out BK306.out (by decide)) (fun _ hk => hk.2) (.int .i64 t303)) (fun _ hk => hk.2) (.int .i64 t304)) (fun _ h_ => h_.1)))); (case side2 => exact (Kd.R_reads' HO280.out).2.1); intro w64 hb; have n0_ := Aside0.mk (Kd.R_below (by (with_reducible repeat (first | apply Kd.R_alloc | apply Kd.R_drewN | apply Kd.R_drew)); exact (Kd.R_mono (Kd.R_far (p := ⟨gb306, 1, none⟩) (Kd.R_far (p := ⟨gb306, 0, none⟩) (Kd.R_types HO280.out BK306.out (by decide)) (fun _ hk => hk.2) (.int .i64 t303)) (fun _ hk => hk.2) (.int .i64 t304)) (fun _ h_ => h_.1))) hb); have n1_ := kf BK290 hb; have n2_ := kf BK294 hb; have n3_ := kf BK298 hb; have n4_ := kf BK302 hb; have n5_ := Aside0.mk (blk_below (g := gb306) (o := .cells #[.int .i64 t303, .int .i64 t304] 24 (0, 0)) (by (with_reducible repeat (first | refine blk_drewN ?_ _ | refine blk_drew ?_ | refine blk_alloc ?_ _)); refine blk_put (cs := #[.int .i64 t303, .int .i64 0]) ?_ 1 _ rfl; (with_reducible repeat (first | refine blk_drewN ?_ _ | refine blk_drew ?_ | refine blk_alloc ?_ _)); refine blk_put (cs := #[.int .i64 0, .int .i64 0]) ?_ 0 _ rfl; (with_reducible repeat (first | refine blk_drewN ?_ _ | refine blk_drew ?_ | refine blk_alloc ?_ _)); exact BK306.out) hb); replace HB := bs HB hb; clear HO280; clear BK290; clear BK294; clear BK298; clear BK302; clear BK306; have HO280 := n0_; have BK290 := n1_; have BK294 := n2_; have BK298 := n3_; have BK302 := n4_; have BK306 := n5_; clear n0_ n1_ n2_ n3_ n4_ n5_; (try clear hb); (try clear hb2); (try clear hk); (try clear hi)) | ((with_reducible refine gate_dst (N := 18) rfl ?_); refine bx 18 #[.int .i64 0, .int .i64 0] 24 ?_; intro gb310 hg w65 hbox hb; have n7_ := Aside0.mk (hbox); have GW310 := gw HB hg; have GE310 := gw HB hg; have NB290_310 := nl BK290 hg; have NB310_290 := nr BK290 hg; have NB294_310 := nl BK294 hg; have NB310_294 := nr BK294 hg; have NB298_310 := nl BK298 hg; have NB310_298 := nr BK298 hg; have NB302_310 := nl BK302 hg; have NB310_302 := nr BK302 hg; have NB306_310 := nl BK306 hg; have NB310_306 := nr BK306 hg; replace HO280 := rb HO280 hb; replace BK290 := kb BK290 hb; replace BK294 := kb BK294 hb; replace BK298 := kb BK298 hb; replace BK302 := kb BK302 hb; replace BK306 := kb BK306 hb; replace HB := bs HB hb; have BK310 := n7_; clear n7_; clear hb hbox hg; have hnb66 := NB310_290.out; have hnc66 := NB290_310.out; have hnb67 := NB310_294.out; have hnc67 := NB294_310.out; have hnb68 := NB310_298.out; have hnc68 := NB298_310.out; have hnb69 := NB310_302.out; have hnc69 := NB302_310.out; have hnb70 := NB310_306.out; have hnc70 := NB306_310.out; have hcz71_0 := bc BK310 0; have hcz71_1 := bc BK310 1; have hfz71_0 := bf BK310 0; have hfz71_1 := bf BK310 1) | (refine gM (some 77) Try.func13 #[.slice Ao35 y278.length co35, .agg #[.int .i64 0, .int .i64 (-1)]] (smear_Smear.calls k _ _ y278 0 (-1) t311 t312 t313 _ ?side1 ?side2 A9.out) ?_; (case side1 => refine (Kd.R_reads' (e := 53) (base := w.heap.size) (ok := fun k_ => True) (n := y278.length) (c := co35) ?_).2.2; exact (by (with_reducible repeat (first | apply Kd.R_alloc | apply Kd.R_drewN | apply Kd.R_drew)); exact (Kd.R_mono (Kd.R_far (p := ⟨gb310, 1, none⟩) (Kd.R_far (p := ⟨gb310, 0, none⟩) (Kd.R_types HO280.out BK310.out (by decide)) (fun _ hk => hk.2) (.int .i64 t307)) (fun _ hk => hk.2) (.int .i64 t308)) (fun _ h_ => h_.1)))); (case side2 => exact (Kd.R_reads' HO280.out).2.1); intro w72 hb; have n0_ := Aside0.mk (Kd.R_below (by (with_reducible repeat (first | apply Kd.R_alloc | apply Kd.R_drewN | apply Kd.R_drew)); exact (Kd.R_mono (Kd.R_far (p := ⟨gb310, 1, none⟩) (Kd.R_far (p := ⟨gb310, 0, none⟩) (Kd.R_types HO280.out BK310.out (by decide)) (fun _ hk => hk.2) (.int .i64 t307)) (fun _ hk => hk.2) (.int .i64 t308)) (fun _ h_ => h_.1))) hb); have n1_ := kf BK290 hb; have n2_ := kf BK294 hb; have n3_ := kf BK298 hb; have n4_ := kf BK302 hb; have n5_ := kf BK306 hb; have n6_ := Aside0.mk (blk_below (g := gb310) (o := .cells #[.int .i64 t307, .int .i64 t308] 24 (0, 0)) (by (with_reducible repeat (first | refine blk_drewN ?_ _ | refine blk_drew ?_ | refine blk_alloc ?_ _)); refine blk_put (cs := #[.int .i64 t307, .int .i64 0]) ?_ 1 _ rfl; (with_reducible repeat (first | refine blk_drewN ?_ _ | refine blk_drew ?_ | refine blk_alloc ?_ _)); refine blk_put (cs := #[.int .i64 0, .int .i64 0]) ?_ 0 _ rfl; (with_reducible repeat (first | refine blk_drewN ?_ _ | refine blk_drew ?_ | refine blk_alloc ?_ _)); exact BK310.out) hb); replace HB := bs HB hb; clear HO280; clear BK290; clear BK294; clear BK298; clear BK302; clear BK306; clear BK310; have HO280 := n0_; have BK290 := n1_; have BK294 := n2_; have BK298 := n3_; have BK302 := n4_; have BK306 := n5_; have BK310 := n6_; clear n0_ n1_ n2_ n3_ n4_ n5_ n6_; (try clear hb); (try clear hb2); (try clear hk); (try clear hi)) | ((with_reducible refine gate_dst (N := 20) rfl ?_); refine bx 20 #[.int .i64 0, .int .i64 0] 24 ?_; intro gb314 hg w73 hbox hb; have n8_ := Aside0.mk (hbox); have GW314 := gw HB hg; have GE314 := gw HB hg; have NB290_314 := nl BK290 hg; have NB314_290 := nr BK290 hg; have NB294_314 := nl BK294 hg; have NB314_294 := nr BK294 hg; have NB298_314 := nl BK298 hg; have NB314_298 := nr BK298 hg; have NB302_314 := nl BK302 hg; have NB314_302 := nr BK302 hg; have NB306_314 := nl BK306 hg; have NB314_306 := nr BK306 hg; have NB310_314 := nl BK310 hg; have NB314_310 := nr BK310 hg; replace HO280 := rb HO280 hb; replace BK290 := kb BK290 hb; replace BK294 := kb BK294 hb; replace BK298 := kb BK298 hb; replace BK302 := kb BK302 hb; replace BK306 := kb BK306 hb; replace BK310 := kb BK310 hb; replace HB := bs HB hb; have BK314 := n8_; clear n8_; clear hb hbox hg; have hnb74 := NB314_290.out; have hnc74 := NB290_314.out; have hnb75 := NB314_294.out; have hnc75 := NB294_314.out; have hnb76 := NB314_298.out; have hnc76 := NB298_314.out; have hnb77 := NB314_302.out; have hnc77 := NB302_314.out; have hnb78 := NB314_306.out; have hnc78 := NB306_314.out; have hnb79 := NB314_310.out; have hnc79 := NB310_314.out; have hcz80_0 := bc BK314 0; have hcz80_1 := bc BK314 1; have hfz80_0 := bf BK314 0; have hfz80_1 := bf BK314 1) | (refine gM (some 83) Try.func13 #[.slice Ao35 y278.length co35, .agg #[.int .i64 (-1), .int .i64 0]] (smear_Smear.calls k _ _ y278 (-1) 0 t315 t316 t317 _ ?side1 ?side2 A10.out) ?_; (case side1 => refine (Kd.R_reads' (e := 53) (base := w.heap.size) (ok := fun k_ => True) (n := y278.length) (c := co35) ?_).2.2; exact (by (with_reducible repeat (first | apply Kd.R_alloc | apply Kd.R_drewN | apply Kd.R_drew)); exact (Kd.R_mono (Kd.R_far (p := ⟨gb314, 1, none⟩) (Kd.R_far (p := ⟨gb314, 0, none⟩) (Kd.R_types HO280.out BK314.out (by decide)) (fun _ hk => hk.2) (.int .i64 t311)) (fun _ hk => hk.2) (.int .i64 t312)) (fun _ h_ => h_.1)))); (case side2 => exact (Kd.R_reads' HO280.out).2.1); intro w81 hb; have n0_ := Aside0.mk (Kd.R_below (by (with_reducible repeat (first | apply Kd.R_alloc | apply Kd.R_drewN | apply Kd.R_drew)); exact (Kd.R_mono (Kd.R_far (p := ⟨gb314, 1, none⟩) (Kd.R_far (p := ⟨gb314, 0, none⟩) (Kd.R_types HO280.out BK314.out (by decide)) (fun _ hk => hk.2) (.int .i64 t311)) (fun _ hk => hk.2) (.int .i64 t312)) (fun _ h_ => h_.1))) hb); have n1_ := kf BK290 hb; have n2_ := kf BK294 hb; have n3_ := kf BK298 hb; have n4_ := kf BK302 hb; have n5_ := kf BK306 hb; have n6_ := kf BK310 hb; have n7_ := Aside0.mk (blk_below (g := gb314) (o := .cells #[.int .i64 t311, .int .i64 t312] 24 (0, 0)) (by (with_reducible repeat (first | refine blk_drewN ?_ _ | refine blk_drew ?_ | refine blk_alloc ?_ _)); refine blk_put (cs := #[.int .i64 t311, .int .i64 0]) ?_ 1 _ rfl; (with_reducible repeat (first | refine blk_drewN ?_ _ | refine blk_drew ?_ | refine blk_alloc ?_ _)); refine blk_put (cs := #[.int .i64 0, .int .i64 0]) ?_ 0 _ rfl; (with_reducible repeat (first | refine blk_drewN ?_ _ | refine blk_drew ?_ | refine blk_alloc ?_ _)); exact BK314.out) hb); replace HB := bs HB hb; clear HO280; clear BK290; clear BK294; clear BK298; clear BK302; clear BK306; clear BK310; clear BK314; have HO280 := n0_; have BK290 := n1_; have BK294 := n2_; have BK298 := n3_; have BK302 := n4_; have BK306 := n5_; have BK310 := n6_; have BK314 := n7_; clear n0_ n1_ n2_ n3_ n4_ n5_ n6_ n7_; (try clear hb); (try clear hb2); (try clear hk); (try clear hi)) | ((with_reducible refine gate_dst (N := 22) rfl ?_); refine bx 22 #[.int .i64 0, .int .i64 0] 24 ?_; intro gb318 hg w82 hbox hb; have n9_ := Aside0.mk (hbox); have GW318 := gw HB hg; have GE318 := gw HB hg; have NB290_318 := nl BK290 hg; have NB318_290 := nr BK290 hg; have NB294_318 := nl BK294 hg; have NB318_294 := nr BK294 hg; have NB298_318 := nl BK298 hg; have NB318_298 := nr BK298 hg; have NB302_318 := nl BK302 hg; have NB318_302 := nr BK302 hg; have NB306_318 := nl BK306 hg; have NB318_306 := nr BK306 hg; have NB310_318 := nl BK310 hg; have NB318_310 := nr BK310 hg; have NB314_318 := nl BK314 hg; have NB318_314 := nr BK314 hg; replace HO280 := rb HO280 hb; replace BK290 := kb BK290 hb; replace BK294 := kb BK294 hb; replace BK298 := kb BK298 hb; replace BK302 := kb BK302 hb; replace BK306 := kb BK306 hb; replace BK310 := kb BK310 hb; replace BK314 := kb BK314 hb; replace HB := bs HB hb; have BK318 := n9_; clear n9_; clear hb hbox hg; have hnb83 := NB318_290.out; have hnc83 := NB290_318.out; have hnb84 := NB318_294.out; have hnc84 := NB294_318.out; have hnb85 := NB318_298.out; have hnc85 := NB298_318.out; have hnb86 := NB318_302.out; have hnc86 := NB302_318.out; have hnb87 := NB318_306.out; have hnc87 := NB306_318.out; have hnb88 := NB318_310.out; have hnc88 := NB310_318.out; have hnb89 := NB318_314.out; have hnc89 := NB314_318.out; have hcz90_0 := bc BK318 0; have hcz90_1 := bc BK318 1; have hfz90_0 := bf BK318 0; have hfz90_1 := bf BK318 1; have hcz91_0 := bc BK290 0; have hcz91_1 := bc BK290 1; have hfz91_0 := bf BK290 0; have hfz91_1 := bf BK290 1; have hcz92_0 := bc BK294 0; have hcz92_1 := bc BK294 1; have hfz92_0 := bf BK294 0; have hfz92_1 := bf BK294 1; have hcz93_0 := bc BK298 0; have hcz93_1 := bc BK298 1; have hfz93_0 := bf BK298 0; have hfz93_1 := bf BK298 1; have hcz94_0 := bc BK302 0; have hcz94_1 := bc BK302 1; have hfz94_0 := bf BK302 0; have hfz94_1 := bf BK302 1; have hcz95_0 := bc BK306 0; have hcz95_1 := bc BK306 1; have hfz95_0 := bf BK306 0; have hfz95_1 := bf BK306 1; have hcz96_0 := bc BK310 0; have hcz96_1 := bc BK310 1; have hfz96_0 := bf BK310 0; have hfz96_1 := bf BK310 1) | (go_at_call 19; (with_reducible refine (smear_Less.calls t291 t292 t287 t288 true _ A30.out).mono ?_); rintro e w97 ⟨rfl, hb⟩; have n0_ := Aside0.mk (Kd.R_below (by (with_reducible repeat (first | apply Kd.R_alloc | apply Kd.R_drewN | apply Kd.R_drew)); exact (Kd.R_mono (Kd.R_far (p := ⟨gb318, 1, none⟩) (Kd.R_far (p := ⟨gb318, 0, none⟩) (Kd.R_types HO280.out BK318.out (by decide)) (fun _ hk => hk.2) (.int .i64 t315)) (fun _ hk => hk.2) (.int .i64 t316)) (fun _ h_ => h_.1))) hb); have n1_ := kf BK290 hb; have n2_ := kf BK294 hb; have n3_ := kf BK298 hb; have n4_ := kf BK302 hb; have n5_ := kf BK306 hb; have n6_ := kf BK310 hb; have n7_ := kf BK314 hb; have n8_ := Aside0.mk (blk_below (g := gb318) (o := .cells #[.int .i64 t315, .int .i64 t316] 24 (0, 0)) (by (with_reducible repeat (first | refine blk_drewN ?_ _ | refine blk_drew ?_ | refine blk_alloc ?_ _)); refine blk_put (cs := #[.int .i64 t315, .int .i64 0]) ?_ 1 _ rfl; (with_reducible repeat (first | refine blk_drewN ?_ _ | refine blk_drew ?_ | refine blk_alloc ?_ _)); refine blk_put (cs := #[.int .i64 0, .int .i64 0]) ?_ 0 _ rfl; (with_reducible repeat (first | refine blk_drewN ?_ _ | refine blk_drew ?_ | refine blk_alloc ?_ _)); exact BK318.out) hb); replace HB := bs HB hb; clear HO280; clear BK290; clear BK294; clear BK298; clear BK302; clear BK306; clear BK310; clear BK314; clear BK318; have HO280 := n0_; have BK290 := n1_; have BK294 := n2_; have BK298 := n3_; have BK302 := n4_; have BK306 := n5_; have BK310 := n6_; have BK314 := n7_; have BK318 := n8_; clear n0_ n1_ n2_ n3_ n4_ n5_ n6_ n7_ n8_; (try clear hb); (try clear hb2); (try clear hk); (try clear hi); have hcz98_0 := bc BK290 0; have hcz98_1 := bc BK290 1; have hfz98_0 := bf BK290 0; have hfz98_1 := bf BK290 1) | (go_at_call 19; (with_reducible refine (smear_Less.calls t287 t288 t287 t288 t320 _ A32.out).mono ?_); rintro e w99 ⟨rfl, hb⟩; replace HO280 := rb HO280 hb; replace BK290 := kb BK290 hb; replace BK294 := kb BK294 hb; replace BK298 := kb BK298 hb; replace BK302 := kb BK302 hb; replace BK306 := kb BK306 hb; replace BK310 := kb BK310 hb; replace BK314 := kb BK314 hb; replace BK318 := kb BK318 hb; replace HB := bs HB hb; (try clear hb); (try clear hb2); (try clear hk); (try clear hi)))
                     go_ret
                     exact fi HB
                    ·replace c31 := Bool.eq_false_iff.mpr c31
                     subst c31
                     rw [if_neg (show ¬ (false = true) by decide)] at H
                     exact absurd H (by simp)
                   ·rw [if_neg c29] at H
                    exact absurd H (by simp)
                  ·rw [if_neg c28] at H
                   exact absurd H (by simp)
                 ·rw [if_neg c27] at H
                  exact absurd H (by simp)
                ·rw [if_neg c26] at H
                 exact absurd H (by simp)
               ·rw [if_neg c25] at H
                exact absurd H (by simp)
              ·rw [if_neg c24] at H
               exact absurd H (by simp)
             ·rw [if_neg c23] at H
              exact absurd H (by simp)
            ·rw [if_neg c22] at H
             exact absurd H (by simp)
           ·rw [if_neg c21] at H
            exact absurd H (by simp)
          ·rw [if_neg c20] at H
           exact absurd H (by simp)
         ·rw [if_neg c19] at H
          exact absurd H (by simp)
        ·rw [if_neg c18] at H
         exact absurd H (by simp)
       ·rw [if_neg c17] at H
        exact absurd H (by simp)
      ·rw [if_neg c16] at H
       exact absurd H (by simp)
     ·rw [if_neg c15] at H
      exact absurd H (by simp)
   ·replace c13 := Bool.eq_false_iff.mpr c13
    subst c13
    rw [if_neg (show ¬ (false = true) by decide)] at H
    exact absurd H (by simp)
  ·rw [if_neg c12] at H
   exact absurd H (by simp)
 ·rw [if_neg c11] at H
  exact absurd H (by simp)

/-! ### epactlaw25_apart: function 22 -/
def epactlaw25_apart.f (a0_0 : Int) (a0_1 : Int) (a1_0 : Int) (a1_1 : Int) : Option (Int) := if (wrap64 (a0_0 - a1_0)) < (-5) then (some 1152921504606846976) else (if (wrap64 (a0_0 - a1_0)) > 5 then (some 1152921504606846976) else (some (wrap64 ((wrap64 ((wrap64 ((wrap64 (a0_0 - a1_0)) * 1000000000)) + a0_1)) - a1_1))))
set_option maxHeartbeats 8000000 in
set_option maxRecDepth 100000 in
theorem epactlaw25_apart.calls (a0_0 : Int) (a0_1 : Int) (a1_0 : Int) (a1_1 : Int) (r : Int) (w : World) (h : epactlaw25_apart.f a0_0 a0_1 a1_0 a1_1 = some r) :
  Calls Try.prog 22 #[.agg #[.int .i64 a0_0, .int .i64 a0_1], .agg #[.int .i64 a1_0, .int .i64 a1_1]] w fun e w' => e = .returned (.int .i64 r) ∧ Below w.heap.size w w' := by
 have hu24 := Try.underlying24
 have HB := Aside0.mk (Below.refl w.heap.size w)
 have H : (if (wrap64 (a0_0 - a1_0)) < (-5) then (some 1152921504606846976) else (if (wrap64 (a0_0 - a1_0)) > 5 then (some 1152921504606846976) else (some (wrap64 ((wrap64 ((wrap64 ((wrap64 (a0_0 - a1_0)) * 1000000000)) + a0_1)) - a1_1))))) = some r := h
 clear h
 by_cases c3 : (wrap64 (a0_0 - a1_0)) < (-5)
 ·rw [if_pos c3] at H
  have c3b0 : decide ((wrap64 (a0_0 - a1_0)) < (-5)) = true := decide_eq_true c3
  clear c3
  obtain rfl := Option.some.inj H
  go_enter Try.func22, Try.ntmps22
  go_wp2_with (first | ((with_reducible refine gate_dst (N := 2) rfl ?_); refine bx 2 #[.int .i64 a0_0, .int .i64 a0_1] 24 ?_; intro gb321 hg w4 hbox hb; have n1_ := Aside0.mk (hbox); have GW321 := gw HB hg; have GE321 := gw HB hg; replace HB := bs HB hb; have BK321 := n1_; clear n1_; clear hb hbox hg) | ((with_reducible refine gate_dst (N := 3) rfl ?_); refine bx 3 #[.int .i64 a1_0, .int .i64 a1_1] 24 ?_; intro gb322 hg w5 hbox hb; have n2_ := Aside0.mk (hbox); have GW322 := gw HB hg; have GE322 := gw HB hg; have NB321_322 := nl BK321 hg; have NB322_321 := nr BK321 hg; replace BK321 := kb BK321 hb; replace HB := bs HB hb; have BK322 := n2_; clear n2_; clear hb hbox hg; have hnb6 := NB321_322.out; have hnc6 := NB322_321.out; have hcz7_0 := bc BK321 0; have hcz7_1 := bc BK321 1; have hfz7_0 := bf BK321 0; have hfz7_1 := bf BK321 1; have hcz8_0 := bc BK322 0; have hcz8_1 := bc BK322 1; have hfz8_0 := bf BK322 0; have hfz8_1 := bf BK322 1))
  go_ret
  exact fi HB
 ·rw [if_neg c3] at H
  have c3b0 : decide ((wrap64 (a0_0 - a1_0)) < (-5)) = false := decide_eq_false c3
  clear c3
  by_cases c9 : (wrap64 (a0_0 - a1_0)) > 5
  ·rw [if_pos c9] at H
   have c9b0 : decide (5 < (wrap64 (a0_0 - a1_0))) = true := decide_eq_true c9
   clear c9
   obtain rfl := Option.some.inj H
   go_enter Try.func22, Try.ntmps22
   go_wp2_with (first | ((with_reducible refine gate_dst (N := 2) rfl ?_); refine bx 2 #[.int .i64 a0_0, .int .i64 a0_1] 24 ?_; intro gb321 hg w10 hbox hb; have n1_ := Aside0.mk (hbox); have GW321 := gw HB hg; have GE321 := gw HB hg; replace HB := bs HB hb; have BK321 := n1_; clear n1_; clear hb hbox hg) | ((with_reducible refine gate_dst (N := 3) rfl ?_); refine bx 3 #[.int .i64 a1_0, .int .i64 a1_1] 24 ?_; intro gb322 hg w11 hbox hb; have n2_ := Aside0.mk (hbox); have GW322 := gw HB hg; have GE322 := gw HB hg; have NB321_322 := nl BK321 hg; have NB322_321 := nr BK321 hg; replace BK321 := kb BK321 hb; replace HB := bs HB hb; have BK322 := n2_; clear n2_; clear hb hbox hg; have hnb12 := NB321_322.out; have hnc12 := NB322_321.out; have hcz13_0 := bc BK321 0; have hcz13_1 := bc BK321 1; have hfz13_0 := bf BK321 0; have hfz13_1 := bf BK321 1; have hcz14_0 := bc BK322 0; have hcz14_1 := bc BK322 1; have hfz14_0 := bf BK322 0; have hfz14_1 := bf BK322 1))
   go_ret
   exact fi HB
  ·rw [if_neg c9] at H
   have c9b0 : decide (5 < (wrap64 (a0_0 - a1_0))) = false := decide_eq_false c9
   clear c9
   obtain rfl := Option.some.inj H
   go_enter Try.func22, Try.ntmps22
   go_wp2_with (first | ((with_reducible refine gate_dst (N := 2) rfl ?_); refine bx 2 #[.int .i64 a0_0, .int .i64 a0_1] 24 ?_; intro gb321 hg w15 hbox hb; have n1_ := Aside0.mk (hbox); have GW321 := gw HB hg; have GE321 := gw HB hg; replace HB := bs HB hb; have BK321 := n1_; clear n1_; clear hb hbox hg) | ((with_reducible refine gate_dst (N := 3) rfl ?_); refine bx 3 #[.int .i64 a1_0, .int .i64 a1_1] 24 ?_; intro gb322 hg w16 hbox hb; have n2_ := Aside0.mk (hbox); have GW322 := gw HB hg; have GE322 := gw HB hg; have NB321_322 := nl BK321 hg; have NB322_321 := nr BK321 hg; replace BK321 := kb BK321 hb; replace HB := bs HB hb; have BK322 := n2_; clear n2_; clear hb hbox hg; have hnb17 := NB321_322.out; have hnc17 := NB322_321.out; have hcz18_0 := bc BK321 0; have hcz18_1 := bc BK321 1; have hfz18_0 := bf BK321 0; have hfz18_1 := bf BK321 1; have hcz19_0 := bc BK322 0; have hcz19_1 := bc BK322 1; have hfz19_0 := bf BK322 0; have hfz19_1 := bf BK322 1))
   go_ret
   exact fi HB

end Go.Proofs.Ythoigncoojcanaa.PAll
