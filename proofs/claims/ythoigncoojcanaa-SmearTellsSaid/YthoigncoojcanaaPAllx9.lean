-- Written for this claim by wip/tools of this repo (after the kit's print; own contracts laid in).
import Derived.Test.YthoigncoojcanaaPAllx0
import Derived.Test.YthoigncoojcanaaShort
import Derived.Test.YthoigncoojcanaaPAllx1
import Derived.Test.YthoigncoojcanaaPAllx5
import Derived.Test.YthoigncoojcanaaPAllx6
import Derived.Test.YthoigncoojcanaaPAllx7
import Derived.Test.YthoigncoojcanaaPAllx8
namespace Go.Proofs.Ythoigncoojcanaa.PAll
open Go.RowKit Go.Proofs.YthoigncoojcanaaW.PrintWords Go.Proofs.YthoigncoojcanaaW.PrintLast Go.Proofs.YthoigncoojcanaaW.PrintMore
attribute [local go_sem] max2_int min2_int max_two min_two max_three min_three max_four min_four   -- for this text's walks alone
set_option linter.unusedVariables false
set_option linter.unusedSimpArgs false

attribute [local go_sem high] eqA24
/-! ### scale_Tai: function 78 -/
def scale_Tai.j0 : Nat → List (S53) → Int → Int → Int → Bool → Option (Int × Int)
 | 0, _, _, _, _, _ => none
 | k + 1, x0, x1, x2, x8, x21 => if x21 = true then (some (0, 9)) else (if x2 ≥ x8 then (some (0, 11)) else ((scale_begins.f k x0 x1).bind fun t252 => ((scale_expired.f k x0 (wrap64 (t252 + x2))).bind fun t253 => (if t253 = true then (some (0, 10)) else (some (wrap64 ((wrap64 (t252 + x2)) - 63072000), 0))))))
def scale_Tai.f (k : Nat) (l0 : List (S53)) (a1 : Int) (a2 : Int) : Option (Int × Int) := (scale_Length.f k l0 a1).bind fun bt250 => (if bt250.2 = 0 then (if a2 < 0 then (scale_Tai.j0 k l0 a1 a2 bt250.1 (decide (a2 < 0))) else (scale_Tai.j0 k l0 a1 a2 bt250.1 (decide (a2 > 86400)))) else (some (0, bt250.2)))
theorem scale_Tai.mono_l : ∀ k, (∀ y0 y1 y2 y3 y4, LeO (scale_Tai.j0 k y0 y1 y2 y3 y4) (scale_Tai.j0 (k + 1) y0 y1 y2 y3 y4))
 | 0 => fun _ _ _ _ _ r h => by simp [scale_Tai.j0] at h
 | k + 1 => by
  have ih0 := scale_Tai.mono_l k
  ·intro y0 y1 y2 y3 y4
   unfold scale_Tai.j0
   repeat' first
   | (with_reducible exact ih0 _ _ _ _ _)
   | (with_reducible exact scale_Length.mono _ _ _)
   | (with_reducible exact scale_begins.mono _ _ _)
   | (with_reducible exact scale_expired.mono _ _ _)
   | (with_reducible exact LeO.refl _)
   | (with_reducible exact LeO.none _)
   | (with_reducible refine LeO.ite ?_ ?_)
   | (with_reducible refine LeO.bind ?_ (fun _ => ?_))
theorem scale_Tai.mono : ∀ a0 a1 a2 k, LeO (scale_Tai.f k a0 a1 a2) (scale_Tai.f (k + 1) a0 a1 a2) := by
 intro a0 a1 a2 k
 have ih0 := scale_Tai.mono_l k
 unfold scale_Tai.f
 repeat' first
   | (with_reducible exact ih0 _ _ _ _ _)
   | (with_reducible exact scale_Length.mono _ _ _)
   | (with_reducible exact scale_begins.mono _ _ _)
   | (with_reducible exact scale_expired.mono _ _ _)
   | (with_reducible exact LeO.refl _)
   | (with_reducible exact LeO.none _)
   | (with_reducible refine LeO.ite ?_ ?_)
   | (with_reducible refine LeO.bind ?_ (fun _ => ?_))
set_option maxHeartbeats 8000000 in
set_option maxRecDepth 100000 in
theorem scale_Tai.calls (k : Nat) (A0 : Option Addr) (c0 : Nat) (l0 : List (S53)) (a1 : Int) (a2 : Int) (r1 : Int) (r2 : Int) (w : World) (hr0 : Kd.C k53 w A0 l0.length l0) (hc0 : l0.length ≤ c0) (h : scale_Tai.f k l0 a1 a2 = some (r1, r2)) :
  Calls Try.prog 78 #[.slice A0 l0.length c0, .int .i64 a1, .int .i64 a2] w fun e w' => e = .returned (.tuple #[.int .i64 r1, .int .i64 r2]) ∧ Below w.heap.size w w' := by
 have HR0 := Aside0.mk hr0
 have HC0 := Aside0.mk hc0
 clear hr0 hc0
 have HB := Aside0.mk (Below.refl w.heap.size w)
 have H : ((scale_Length.f k l0 a1).bind fun bt250 => (if bt250.2 = 0 then (if a2 < 0 then (scale_Tai.j0 k l0 a1 a2 bt250.1 (decide (a2 < 0))) else (scale_Tai.j0 k l0 a1 a2 bt250.1 (decide (a2 > 86400)))) else (some (0, bt250.2)))) = some (r1, r2) := h
 clear h
 obtain ⟨⟨t250, t251⟩, A4, H⟩ := bnd H
 try dsimp only at H
 by_cases c5 : t251 = 0
 ·rw [if_pos c5] at H
  have c5b0 : (t251 == 0) = true := beq_iff_eq.mpr c5
  have c5b1 : (t251 != 0) = false := bne_eq_false_iff_eq.mpr c5
  clear c5
  have HC6 := Aside0.mk H
  clear H
  go_enter Try.func78, Try.ntmps78
  go_upto_if 21 with (first | (refine gM (some 14) Try.func97 #[.slice A0 l0.length c0, .int .i64 a1] (scale_Length.calls k _ _ l0 a1 t250 t251 _ ?side1 ?side2 A4.out) ?_; (case side1 => exact ca HR0); (case side2 => exact HC0.out); intro w7 hb; replace HB := bs HB hb; (try clear hb)))
  (try simp only [Act.put, List.setIfInBounds_toArray, List.set_cons_zero, List.set_cons_succ])
  go_cut [21] (fun v21 wc => ∃ (kq : Nat) (x21_5 : Bool), v21 = .bool x21_5 ∧ Aside0 (scale_Tai.j0 kq l0 a1 a2 t250 x21_5 = some (r1, r2)) ∧ Aside0 (kq ≤ k) ∧ Aside0 (Below w.heap.size w wc))
  case first =>
   have H := HC6.out
   clear HC6
   by_cases c8 : a2 < 0
   ·rw [if_pos c8] at H
    have c8b0 : decide (a2 < 0) = true := decide_eq_true c8
    clear c8
    (first | rw [c8b0] | (simp only [i64_w, i32_w]; rw [c8b0]) | skip)
    have H' := Aside0.mk H
    clear H
    go_wp2
    go_meet
    case rel => exact ⟨_, (decide (a2 < 0)), pr, H', om, ba HB⟩
   ·rw [if_neg c8] at H
    have c8b0 : decide (a2 < 0) = false := decide_eq_false c8
    clear c8
    (first | rw [c8b0] | (simp only [i64_w, i32_w]; rw [c8b0]) | skip)
    have H' := Aside0.mk H
    clear H
    go_wp2
    go_meet
    case rel => exact ⟨_, (decide (a2 > 86400)), pr, H', om, ba HB⟩
  case rest =>
   clear HC6
   try clear p2
   try clear c5
   try clear c5b0
   try clear c5b1
   try clear c7
   try clear c8
   try clear c8b0
   obtain ⟨kq, x21_5, rfl, HA, HJ5, HB⟩ := hcut
   cases kq with
   | zero => exact absurd HA.out (by simp [scale_Tai.j0])
   | succ kj5 =>
    have H := HA.out
    clear HA
    simp only [scale_Tai.j0] at H
    by_cases c9 : x21_5 = true
    ·subst c9
     rw [if_pos rfl] at H
     simp only [Option.some.injEq, Prod.mk.injEq] at H
     obtain ⟨rfl, rfl⟩ := H
     go_wp2
     go_ret2
     exact fi HB
    ·replace c9 := Bool.eq_false_iff.mpr c9
     subst c9
     rw [if_neg (show ¬ (false = true) by decide)] at H
     by_cases c10 : a2 ≥ t250
     ·rw [if_pos c10] at H
      have c10b0 : decide (t250 ≤ a2) = true := decide_eq_true c10
      clear c10
      simp only [Option.some.injEq, Prod.mk.injEq] at H
      obtain ⟨rfl, rfl⟩ := H
      go_wp2
      go_ret2
      exact fi HB
     ·rw [if_neg c10] at H
      have c10b0 : decide (t250 ≤ a2) = false := decide_eq_false c10
      clear c10
      obtain ⟨t252, A11, H⟩ := bnd H
      try dsimp only at H
      obtain ⟨t253, A12, H⟩ := bnd H
      try dsimp only at H
      by_cases c13 : t253 = true
      ·subst c13
       rw [if_pos rfl] at H
       simp only [Option.some.injEq, Prod.mk.injEq] at H
       obtain ⟨rfl, rfl⟩ := H
       go_wp2_with (first | (refine gM (some 32) Try.func98 #[.slice A0 l0.length c0, .int .i64 a1] (scale_begins.calls kj5 _ _ l0 a1 t252 _ ?side1 ?side2 A11.out) ?_; (case side1 => exact cb HR0 HB); (case side2 => exact HC0.out); intro w14 hb; replace HB := bs HB hb; (try clear hb)) | (refine gM (some 37) Try.func54 #[.slice A0 l0.length c0, .int .i64 (wrap64 (t252 + a2))] (scale_expired.calls kj5 _ _ l0 (wrap64 (t252 + a2)) true _ ?side1 ?side2 A12.out) ?_; (case side1 => exact cb HR0 HB); (case side2 => exact HC0.out); intro w15 hb; replace HB := bs HB hb; (try clear hb)))
       go_ret2
       exact fi HB
      ·replace c13 := Bool.eq_false_iff.mpr c13
       subst c13
       rw [if_neg (show ¬ (false = true) by decide)] at H
       simp only [Option.some.injEq, Prod.mk.injEq] at H
       obtain ⟨rfl, rfl⟩ := H
       go_wp2_with (first | (refine gM (some 32) Try.func98 #[.slice A0 l0.length c0, .int .i64 a1] (scale_begins.calls kj5 _ _ l0 a1 t252 _ ?side1 ?side2 A11.out) ?_; (case side1 => exact cb HR0 HB); (case side2 => exact HC0.out); intro w16 hb; replace HB := bs HB hb; (try clear hb)) | (refine gM (some 37) Try.func54 #[.slice A0 l0.length c0, .int .i64 (wrap64 (t252 + a2))] (scale_expired.calls kj5 _ _ l0 (wrap64 (t252 + a2)) false _ ?side1 ?side2 A12.out) ?_; (case side1 => exact cb HR0 HB); (case side2 => exact HC0.out); intro w17 hb; replace HB := bs HB hb; (try clear hb)))
       go_ret2
       exact fi HB
 ·rw [if_neg c5] at H
  have c5b0 : (t251 == 0) = false := beq_eq_false_iff_ne.mpr c5
  have c5b1 : (t251 != 0) = true := bne_iff_ne.mpr c5
  simp only [Option.some.injEq, Prod.mk.injEq] at H
  obtain ⟨rfl, rfl⟩ := H
  go_enter Try.func78, Try.ntmps78
  go_wp2_with (first | (refine gM (some 14) Try.func97 #[.slice A0 l0.length c0, .int .i64 a1] (scale_Length.calls k _ _ l0 a1 t250 t251 _ ?side1 ?side2 A4.out) ?_; (case side1 => exact ca HR0); (case side2 => exact HC0.out); intro w18 hb; replace HB := bs HB hb; (try clear hb)))
  go_ret2
  exact fi HB

/-! ### posix_Tai: function 46 -/
def posix_Tai.f (k : Nat) (l0 : List (S53)) (a1 : Int) : Option (Int × Int) := (posix_Day.f a1).bind fun bt254 => ((scale_Tai.f k l0 bt254.1 bt254.2).bind fun bt256 => (some (bt256.1, bt256.2)))
theorem posix_Tai.mono : ∀ a0 a1 k, LeO (posix_Tai.f k a0 a1) (posix_Tai.f (k + 1) a0 a1) := by
 intro a0 a1 k
 unfold posix_Tai.f
 repeat' first
   | (with_reducible exact scale_Tai.mono _ _ _ _)
   | (with_reducible exact LeO.refl _)
   | (with_reducible exact LeO.none _)
   | (with_reducible refine LeO.ite ?_ ?_)
   | (with_reducible refine LeO.bind ?_ (fun _ => ?_))
set_option maxHeartbeats 8000000 in
set_option maxRecDepth 100000 in
theorem posix_Tai.calls (k : Nat) (A0 : Option Addr) (c0 : Nat) (l0 : List (S53)) (a1 : Int) (r1 : Int) (r2 : Int) (w : World) (hr0 : Kd.C k53 w A0 l0.length l0) (hc0 : l0.length ≤ c0) (h : posix_Tai.f k l0 a1 = some (r1, r2)) :
  Calls Try.prog 46 #[.slice A0 l0.length c0, .int .i64 a1] w fun e w' => e = .returned (.tuple #[.int .i64 r1, .int .i64 r2]) ∧ Below w.heap.size w w' := by
 have HR0 := Aside0.mk hr0
 have HC0 := Aside0.mk hc0
 clear hr0 hc0
 have HB := Aside0.mk (Below.refl w.heap.size w)
 have H : ((posix_Day.f a1).bind fun bt254 => ((scale_Tai.f k l0 bt254.1 bt254.2).bind fun bt256 => (some (bt256.1, bt256.2)))) = some (r1, r2) := h
 clear h
 obtain ⟨⟨t254, t255⟩, A3, H⟩ := bnd H
 try dsimp only at H
 obtain ⟨⟨t256, t257⟩, A4, H⟩ := bnd H
 try dsimp only at H
 simp only [Option.some.injEq, Prod.mk.injEq] at H
 obtain ⟨rfl, rfl⟩ := H
 go_enter Try.func46, Try.ntmps46
 go_wp2_with (first | (refine gN (some 10) Try.func77 #[.int .i64 a1] (posix_Day.calls a1 t254 t255 _ A3.out) ?_; intro nd) | (refine gM (some 16) Try.func78 #[.slice A0 l0.length c0, .int .i64 t254, .int .i64 t255] (scale_Tai.calls k _ _ l0 t254 t255 t256 t257 _ ?side1 ?side2 A4.out) ?_; (case side1 => exact ca HR0); (case side2 => exact HC0.out); intro w5 hb; replace HB := bs HB hb; (try clear hb)))
 go_ret2
 exact fi HB

/-! ### smear_Unsmear: function 15 -/
def smear_Unsmear.f (k : Nat) (l0 : List (S53)) (a1_0 : Int) (a1_1 : Int) : Option (Int × Int × Int) := (smear_right.f k l0 a1_0 a1_1).bind fun t260 => (if t260 = true then ((smear_find.f k l0 (44, a1_0)).bind fun bt261 => (if bt261.2.2.2 = true then ((smear_nanos.f a1_0 a1_1 bt261.2.1).bind fun t266 => ((wide_Up.f k t266 bt261.2.2.1 86400).bind fun bt267 => ((smear_later.f bt261.1 bt267.1).bind fun bt269 => ((scale_Utc.f k l0 bt269.1).bind fun bt271 => (if bt271.2.2 = 0 then (some (bt269.1, bt269.2, 0)) else (some (0, 0, bt271.2.2))))))) else ((posix_Tai.f k l0 a1_0).bind fun bt274 => (if bt274.2 = 0 then (some (bt274.1, a1_1, 0)) else (some (0, 0, bt274.2)))))) else (some (0, 0, 1)))
theorem smear_Unsmear.mono : ∀ a0 a1 a2 k, LeO (smear_Unsmear.f k a0 a1 a2) (smear_Unsmear.f (k + 1) a0 a1 a2) := by
 intro a0 a1 a2 k
 unfold smear_Unsmear.f
 repeat' first
   | (with_reducible exact posix_Tai.mono _ _ _)
   | (with_reducible exact scale_Utc.mono _ _ _)
   | (with_reducible exact smear_find.mono _ _ _)
   | (with_reducible exact smear_right.mono _ _ _ _)
   | (with_reducible exact wide_Up.mono _ _ _ _)
   | (with_reducible exact LeO.refl _)
   | (with_reducible exact LeO.none _)
   | (with_reducible refine LeO.ite ?_ ?_)
   | (with_reducible refine LeO.bind ?_ (fun _ => ?_))
def smear_Unsmear.T5 : Bool × List (List Nat × List Nat) := (true, [([], []), ([], []), ([1], [1]), ([0, 2], [0, 2]), ([], []), ([4], [4]), ([3, 5, 3], [3, 5]), ([6], [6]), ([7], [7]), ([7], [7]), ([8, 6, 0, 1, 2, 3, 4, 5, 6, 7, 8], [8]), ([9, 10, 0, 1, 2, 3, 4, 5, 6, 7, 8, 9, 10], [9])])
def smear_Unsmear.B5 : List Nat := [0, 0, 2, 7, 0, 16, 63, 127, 255, 255, 511, 2047]
theorem smear_Unsmear.tab5 : rtab .any (opsOf Try.f15 5) = smear_Unsmear.T5 := by kernel_rfl
theorem smear_Unsmear.bits5 : waitsOk smear_Unsmear.T5.2 smear_Unsmear.B5 = true := by kernel_rfl
set_option maxHeartbeats 8000000 in
set_option maxRecDepth 100000 in
theorem smear_Unsmear.calls (k : Nat) (A0 : Option Addr) (c0 : Nat) (l0 : List (S53)) (a1_0 : Int) (a1_1 : Int) (r1 : Int) (r2 : Int) (r3 : Int) (w : World) (hr0 : Kd.C k53 w A0 l0.length l0) (hc0 : l0.length ≤ c0) (h : smear_Unsmear.f k l0 a1_0 a1_1 = some (r1, r2, r3)) :
  Calls Try.prog 15 #[.slice A0 l0.length c0, .agg #[.int .i64 a1_0, .int .i64 a1_1]] w fun e w' => e = .returned (.tuple #[.agg #[.int .i64 r1, .int .i64 r2], .int .i64 r3]) ∧ Below w.heap.size w w' := by
 have hu24 := Try.underlying24
 have hu56 := Try.underlying56
 have HR0 := Aside0.mk hr0
 have HC0 := Aside0.mk hc0
 clear hr0 hc0
 have HB := Aside0.mk (Below.refl w.heap.size w)
 have H : ((smear_right.f k l0 a1_0 a1_1).bind fun t260 => (if t260 = true then ((smear_find.f k l0 (44, a1_0)).bind fun bt261 => (if bt261.2.2.2 = true then ((smear_nanos.f a1_0 a1_1 bt261.2.1).bind fun t266 => ((wide_Up.f k t266 bt261.2.2.1 86400).bind fun bt267 => ((smear_later.f bt261.1 bt267.1).bind fun bt269 => ((scale_Utc.f k l0 bt269.1).bind fun bt271 => (if bt271.2.2 = 0 then (some (bt269.1, bt269.2, 0)) else (some (0, 0, bt271.2.2))))))) else ((posix_Tai.f k l0 a1_0).bind fun bt274 => (if bt274.2 = 0 then (some (bt274.1, a1_1, 0)) else (some (0, 0, bt274.2)))))) else (some (0, 0, 1)))) = some (r1, r2, r3) := h
 clear h
 obtain ⟨t260, A3, H⟩ := bnd H
 try dsimp only at H
 by_cases c4 : t260 = true
 ·subst c4
  rw [if_pos rfl] at H
  obtain ⟨⟨t261, t262, t263, t264⟩, A5, H⟩ := bnd H
  try dsimp only at H
  by_cases c6 : t264 = true
  ·subst c6
   rw [if_pos rfl] at H
   obtain ⟨t266, A7, H⟩ := bnd H
   try dsimp only at H
   obtain ⟨⟨t267, t268⟩, A8, H⟩ := bnd H
   try dsimp only at H
   obtain ⟨⟨t269, t270⟩, A9, H⟩ := bnd H
   try dsimp only at H
   obtain ⟨⟨t271, t272, t273⟩, A10, H⟩ := bnd H
   try dsimp only at H
   by_cases c11 : t273 = 0
   ·rw [if_pos c11] at H
    have c11b0 : (t273 == 0) = true := beq_iff_eq.mpr c11
    have c11b1 : (t273 != 0) = false := bne_eq_false_iff_eq.mpr c11
    clear c11
    simp only [Option.some.injEq, Prod.mk.injEq] at H
    obtain ⟨rfl, rfl, rfl⟩ := H
    go_enter Try.func15, Try.ntmps15
    try go_wp2_with (first | ((with_reducible refine gate_dst (N := 3) rfl ?_); refine bx 3 #[.int .i64 a1_0, .int .i64 a1_1] 24 ?_; intro gb258 hg w12 hbox hb; have n1_ := Aside0.mk (hbox); have GW258 := gw HB hg; have GE258 := gw HB hg; replace HB := bs HB hb; have BK258 := n1_; clear n1_; clear hb hbox hg) | ((with_reducible refine gate_dst (N := 4) rfl ?_); refine bx 4 #[.int .i64 0, .int .i64 0] 24 ?_; intro gb259 hg w13 hbox hb; have n2_ := Aside0.mk (hbox); have GW259 := gw HB hg; have GE259 := gw HB hg; have NB258_259 := nl BK258 hg; have NB259_258 := nr BK258 hg; replace BK258 := kb BK258 hb; replace HB := bs HB hb; have BK259 := n2_; clear n2_; clear hb hbox hg; have hnb14 := NB258_259.out; have hnc14 := NB259_258.out; have hcz15_0 := bc BK258 0; have hcz15_1 := bc BK258 1; have hfz15_0 := bf BK258 0; have hfz15_1 := bf BK258 1) | (refine gM (some 12) Try.func43 #[.slice A0 l0.length c0, .agg #[.int .i64 a1_0, .int .i64 a1_1]] (smear_right.calls k _ _ l0 a1_0 a1_1 true _ ?side1 ?side2 A3.out) ?_; (case side1 => exact cb HR0 HB); (case side2 => exact HC0.out); intro w16 hb; replace BK258 := kb BK258 hb; replace BK259 := kb BK259 hb; replace HB := bs HB hb; (try clear hb); have hcz17_0 := bc BK258 0; have hcz17_1 := bc BK258 1; have hfz17_0 := bf BK258 0; have hfz17_1 := bf BK258 1) | (refine gL (some 18) Try.func30 #[.slice A0 l0.length c0, .func (.func 44) #[] #[.pointer (some ⟨gb258, 0, none⟩)]] ?_; (with_reducible refine (smear_find.calls k _ _ l0 (44, a1_0) t261 t262 t263 true _ ?side1 ?side2 A5.out).mono ?_); (case side1 => exact cb HR0 HB); (case side2 => exact HC0.out); rintro e w18 ⟨rfl, hb⟩; refine ⟨_, rfl, ?_⟩; replace BK258 := kb BK258 hb; replace BK259 := kb BK259 hb; replace HB := bs HB hb; (try clear hb)) | ((with_reducible refine gate_dst (N := 6) rfl ?_); refine bx 6 #[.int .i64 0, .int .i64 0, .int .i64 0] 56 ?_; intro gb265 hg w19 hbox hb; have n3_ := Aside0.mk (hbox); have GW265 := gw HB hg; have GE265 := gw HB hg; have NB258_265 := nl BK258 hg; have NB265_258 := nr BK258 hg; have NB259_265 := nl BK259 hg; have NB265_259 := nr BK259 hg; replace BK258 := kb BK258 hb; replace BK259 := kb BK259 hb; replace HB := bs HB hb; have BK265 := n3_; clear n3_; clear hb hbox hg; have hnb20 := NB265_258.out; have hnc20 := NB258_265.out; have hnb21 := NB265_259.out; have hnc21 := NB259_265.out; have hcz22_0 := bc BK265 0; have hcz22_1 := bc BK265 1; have hcz22_2 := bc BK265 2; have hfz22_0 := bf BK265 0; have hfz22_1 := bf BK265 1; have hfz22_2 := bf BK265 2))
    have n0_ : Aside0 ((((w19.setCell ⟨gb265, 0, none⟩ (.int .i64 t261)).setCell ⟨gb265, 1, none⟩ (.int .i64 t262)).setCell ⟨gb265, 2, none⟩ (.int .i64 t263)).heap[gb258]? = some (.cells #[.int .i64 a1_0, .int .i64 a1_1] 24 (0, 0))) := kg BK258
    have n1_ : Aside0 ((((w19.setCell ⟨gb265, 0, none⟩ (.int .i64 t261)).setCell ⟨gb265, 1, none⟩ (.int .i64 t262)).setCell ⟨gb265, 2, none⟩ (.int .i64 t263)).heap[gb259]? = some (.cells #[.int .i64 0, .int .i64 0] 24 (0, 0))) := kg BK259
    have n2_ : Aside0 ((((w19.setCell ⟨gb265, 0, none⟩ (.int .i64 t261)).setCell ⟨gb265, 1, none⟩ (.int .i64 t262)).setCell ⟨gb265, 2, none⟩ (.int .i64 t263)).heap[gb265]? = some (.cells #[.int .i64 t261, .int .i64 t262, .int .i64 t263] 56 (0, 0))) := ⟨by (with_reducible repeat (first | refine blk_drewN ?_ _ | refine blk_drew ?_ | refine blk_alloc ?_ _)); refine blk_put (cs := #[.int .i64 t261, .int .i64 t262, .int .i64 0]) ?_ 2 _ rfl; (with_reducible repeat (first | refine blk_drewN ?_ _ | refine blk_drew ?_ | refine blk_alloc ?_ _)); refine blk_put (cs := #[.int .i64 t261, .int .i64 0, .int .i64 0]) ?_ 1 _ rfl; (with_reducible repeat (first | refine blk_drewN ?_ _ | refine blk_drew ?_ | refine blk_alloc ?_ _)); refine blk_put (cs := #[.int .i64 0, .int .i64 0, .int .i64 0]) ?_ 0 _ rfl; (with_reducible repeat (first | refine blk_drewN ?_ _ | refine blk_drew ?_ | refine blk_alloc ?_ _)); exact BK265.out⟩
    have n3_ : Aside0 (Below w.heap.size w (((w19.setCell ⟨gb265, 0, none⟩ (.int .i64 t261)).setCell ⟨gb265, 1, none⟩ (.int .i64 t262)).setCell ⟨gb265, 2, none⟩ (.int .i64 t263))) := ba HB
    (try clear BK258)
    (try clear BK259)
    (try clear BK265)
    (try clear HB)
    generalize (((w19.setCell ⟨gb265, 0, none⟩ (.int .i64 t261)).setCell ⟨gb265, 1, none⟩ (.int .i64 t262)).setCell ⟨gb265, 2, none⟩ (.int .i64 t263)) = w23 at n0_ n1_ n2_ n3_ ⊢
    have BK258 := n0_
    have BK259 := n1_
    have BK265 := n2_
    have HB := n3_
    clear n0_ n1_ n2_ n3_
    have n0_ := Aside0.mk (blk_drew BK258.out)
    have n1_ := Aside0.mk (blk_drew BK259.out)
    have n2_ := Aside0.mk (blk_drew BK265.out)
    have n3_ := Aside0.mk (below_drew1 HB.out)
    clear BK258
    clear BK259
    clear BK265
    clear HB
    have BK258 := n0_
    have BK259 := n1_
    have BK265 := n2_
    have HB := n3_
    clear n0_ n1_ n2_ n3_
    refine start_ (n := 12) (S := fun w' => w'.cell? ⟨gb258, 0, none⟩ = some (.int .i64 a1_0) ∧ w'.cell? ⟨gb258, 1, none⟩ = some (.int .i64 a1_1) ∧ w'.cell? ⟨gb265, 0, none⟩ = some (.int .i64 t261) ∧ w'.cell? ⟨gb265, 1, none⟩ = some (.int .i64 t262) ∧ w'.cell? ⟨gb265, 2, none⟩ = some (.int .i64 t263)) (ds := []) #[false, false, false, false, false, false, false, false, false, false, false, false] (by kernel_rfl) rfl rfl ⟨(blk_cell BK258.out 0).trans rfl, (blk_cell BK258.out 1).trans rfl, (blk_cell BK265.out 0).trans rfl, (blk_cell BK265.out 1).trans rfl, (blk_cell BK265.out 2).trans rfl⟩ (fun hHeld => ?_); refine with_tabW smear_Unsmear.tab5 smear_Unsmear.bits5 (fun HT_ HW_ => ?_)
    generalize w23.drew = w24 at BK258 BK259 BK265 HB hHeld ⊢
    refine pu HT_ 1 (some 24) #[false, true, false, false, false, false, false, false, false, false, false, false] ?_
    refine pu HT_ 4 (some 27) #[false, true, false, false, true, false, false, false, false, false, false, false] ?_
    refine take_ (i := 0) (N := some 23) (v := ?_) (a' := ?_) #[true, true, false, false, true, false, false, false, false, false, false, false] rfl rfl (take_ofW HT_.out HW_.out (by kernel_rfl)) (fun _ _ _ h => h) (Or.inl ⟨by rfl, ?_⟩) hHeld ?_ ?_
    rotate_left
    ·rintro w' ⟨s0, s1, s2, s3, s4⟩
     go_simp
     with_reducible rfl
    rotate_left
    ·simp only [Act.put, List.setIfInBounds_toArray, List.set_cons_zero, List.set_cons_succ, i64_w, i32_w]
     rfl
    refine take_ (i := 2) (N := some 25) (v := ?_) (a' := ?_) #[true, true, true, false, true, false, false, false, false, false, false, false] rfl rfl (take_ofW HT_.out HW_.out (by kernel_rfl)) (fun _ _ _ h => h) (Or.inl ⟨by rfl, ?_⟩) hHeld ?_ ?_
    rotate_left
    ·rintro w' ⟨s0, s1, s2, s3, s4⟩
     go_simp
     with_reducible rfl
    rotate_left
    ·simp only [Act.put, List.setIfInBounds_toArray, List.set_cons_zero, List.set_cons_succ, i64_w, i32_w]
     rfl
    refine take_ (i := 5) (N := some 28) (v := ?_) (a' := ?_) #[true, true, true, false, true, true, false, false, false, false, false, false] rfl rfl (take_ofW HT_.out HW_.out (by kernel_rfl)) (fun _ _ _ h => h) (Or.inl ⟨by rfl, ?_⟩) hHeld ?_ ?_
    rotate_left
    ·rintro w' ⟨s0, s1, s2, s3, s4⟩
     go_simp
     with_reducible rfl
    rotate_left
    ·simp only [Act.put, List.setIfInBounds_toArray, List.set_cons_zero, List.set_cons_succ, i64_w, i32_w]
     rfl
    refine one_ (i := 3) (N := some 26) #[true, true, true, true, true, true, false, false, false, false, false, false] rfl rfl (one_of HT_.out (by kernel_rfl)) (by decide) (fun K hK => ?_)
    refine goes_ Try.func39 (by kernel_rfl) rfl #[.agg #[.int .i64 a1_0, .int .i64 a1_1], .int .i64 t262] (by rfl) rfl rfl (by (try simp only [List.map_toArray, List.map_cons, List.map_nil]); first | done | rfl | (simp only [List.length_drop, List.length_take]; rfl)) ?_
    with_reducible refine (smear_nanos.calls a1_0 a1_1 t262 t266 _ A7.out).mono ?_
    rintro e w25 ⟨rfl, hb⟩
    refine ⟨_, rfl, ?_⟩
    have n0_ := kb BK258 hb
    have n1_ := kb BK259 hb
    have n2_ := kb BK265 hb
    have n3_ := bs HB hb
    clear BK258
    clear BK259
    clear BK265
    clear HB
    have BK258 := n0_
    have BK259 := n1_
    have BK265 := n2_
    have HB := n3_
    clear n0_ n1_ n2_ n3_
    (try clear hb)
    (try clear hb2)
    (try clear hk)
    (try clear hi)
    refine hK.out _ _ ⟨(blk_cell BK258.out 0).trans rfl, (blk_cell BK258.out 1).trans rfl, (blk_cell BK265.out 0).trans rfl, (blk_cell BK265.out 1).trans rfl, (blk_cell BK265.out 2).trans rfl⟩ (fun hHeld => ?_)
    clear hK K
    refine norm_ (a' := ?_) ?_ ?_
    rotate_left
    ·show Act.put _ (some 26) _ = _
     simp only [Act.put, List.setIfInBounds_toArray, List.set_cons_zero, List.set_cons_succ, i64_w, i32_w]
     rfl
    refine one_ (i := 6) (N := some 29) #[true, true, true, true, true, true, true, false, false, false, false, false] rfl rfl (one_of HT_.out (by kernel_rfl)) (by decide) (fun K hK => ?_)
    refine goes_ Try.func45 (by kernel_rfl) rfl #[.int .i64 t266, .int .i64 t263, .int .i64 86400] (by rfl) rfl rfl (by (try simp only [List.map_toArray, List.map_cons, List.map_nil]); first | done | rfl | (simp only [List.length_drop, List.length_take]; rfl)) ?_
    with_reducible refine (wide_Up.calls k t266 t263 86400 t267 t268 _ A8.out).mono ?_
    rintro e w' ⟨rfl, ⟨nd, rfl⟩⟩
    refine ⟨_, rfl, ?_⟩
    refine hK.out _ _ ⟨(blk_cell BK258.out 0).trans rfl, (blk_cell BK258.out 1).trans rfl, (blk_cell BK265.out 0).trans rfl, (blk_cell BK265.out 1).trans rfl, (blk_cell BK265.out 2).trans rfl⟩ (fun hHeld => ?_)
    clear hK K
    refine norm_ (a' := ?_) ?_ ?_
    rotate_left
    ·show Act.put _ (some 29) _ = _
     simp only [Act.put, List.setIfInBounds_toArray, List.set_cons_zero, List.set_cons_succ, i64_w, i32_w]
     rfl
    refine pu HT_ 7 (some 22) #[true, true, true, true, true, true, true, true, false, false, false, false] ?_
    refine pu HT_ 8 (some 30) #[true, true, true, true, true, true, true, true, true, false, false, false] ?_
    refine pu HT_ 9 (some 31) #[true, true, true, true, true, true, true, true, true, true, false, false] ?_
    refine pu HT_ 10 (some 8) #[true, true, true, true, true, true, true, true, true, true, true, false] ?_
    refine pu HT_ 11 (some 9) #[true, true, true, true, true, true, true, true, true, true, true, true] ?_
    refine done_ (done_of HT_.out (by kernel_rfl)) ?_
    have hcz26_0 := bc BK265 0
    have hcz26_1 := bc BK265 1
    have hcz26_2 := bc BK265 2
    have hfz26_0 := bf BK265 0
    have hfz26_1 := bf BK265 1
    have hfz26_2 := bf BK265 2
    try go_wp2_with (first | (refine gM (some 35) Try.func40 #[.int .i64 t261, .int .i64 t267] (smear_later.calls t261 t267 t269 t270 _ A9.out) ?_; intro w27 hb; replace BK258 := kb BK258 hb; replace BK259 := kb BK259 hb; replace BK265 := kb BK265 hb; replace HB := bs HB hb; (try clear hb); have hcz28_0 := bc BK259 0; have hcz28_1 := bc BK259 1; have hfz28_0 := bf BK259 0; have hfz28_1 := bf BK259 1) | (refine gM (some 40) Try.func21 #[.slice A0 l0.length c0, .int .i64 t269] (scale_Utc.calls k _ _ l0 t269 t271 t272 t273 _ ?side1 ?side2 A10.out) ?_; (case side1 => exact cb HR0 HB); (case side2 => exact HC0.out); intro w29 hb; have n0_ := kf BK258 hb; have n1_ := Aside0.mk (blk_below (g := gb259) (o := .cells #[.int .i64 t269, .int .i64 t270] 24 (0, 0)) (by (with_reducible repeat (first | refine blk_drewN ?_ _ | refine blk_drew ?_ | refine blk_alloc ?_ _)); refine blk_put (cs := #[.int .i64 t269, .int .i64 0]) ?_ 1 _ rfl; (with_reducible repeat (first | refine blk_drewN ?_ _ | refine blk_drew ?_ | refine blk_alloc ?_ _)); refine blk_put (cs := #[.int .i64 0, .int .i64 0]) ?_ 0 _ rfl; (with_reducible repeat (first | refine blk_drewN ?_ _ | refine blk_drew ?_ | refine blk_alloc ?_ _)); exact BK259.out) hb); have n2_ := kf BK265 hb; replace HB := bs HB hb; clear BK258; clear BK259; clear BK265; have BK258 := n0_; have BK259 := n1_; have BK265 := n2_; clear n0_ n1_ n2_; (try clear hb); have hcz30_0 := bc BK259 0; have hcz30_1 := bc BK259 1; have hfz30_0 := bf BK259 0; have hfz30_1 := bf BK259 1))
    refine bodyPost_ret (results_ct rfl _ _ gb259 24 #[.int .i64 t269, .int .i64 t270] (0, 0) _ rfl (by (with_reducible repeat (first | refine blk_drewN ?_ _ | refine blk_drew ?_ | refine blk_alloc ?_ _)); refine blk_put (cs := #[.int .i64 t269, .int .i64 t270]) ?_ 1 _ rfl; (with_reducible repeat (first | refine blk_drewN ?_ _ | refine blk_drew ?_ | refine blk_alloc ?_ _)); refine blk_put (cs := #[.int .i64 t269, .int .i64 t270]) ?_ 0 _ rfl; (with_reducible repeat (first | refine blk_drewN ?_ _ | refine blk_drew ?_ | refine blk_alloc ?_ _)); exact BK259.out) Try.underlying24 rfl (by kernel_rfl)) rfl ?_
    exact fi HB
   ·rw [if_neg c11] at H
    have c11b0 : (t273 == 0) = false := beq_eq_false_iff_ne.mpr c11
    have c11b1 : (t273 != 0) = true := bne_iff_ne.mpr c11
    simp only [Option.some.injEq, Prod.mk.injEq] at H
    obtain ⟨rfl, rfl, rfl⟩ := H
    go_enter Try.func15, Try.ntmps15
    try go_wp2_with (first | ((with_reducible refine gate_dst (N := 3) rfl ?_); refine bx 3 #[.int .i64 a1_0, .int .i64 a1_1] 24 ?_; intro gb258 hg w31 hbox hb; have n1_ := Aside0.mk (hbox); have GW258 := gw HB hg; have GE258 := gw HB hg; replace HB := bs HB hb; have BK258 := n1_; clear n1_; clear hb hbox hg) | ((with_reducible refine gate_dst (N := 4) rfl ?_); refine bx 4 #[.int .i64 0, .int .i64 0] 24 ?_; intro gb259 hg w32 hbox hb; have n2_ := Aside0.mk (hbox); have GW259 := gw HB hg; have GE259 := gw HB hg; have NB258_259 := nl BK258 hg; have NB259_258 := nr BK258 hg; replace BK258 := kb BK258 hb; replace HB := bs HB hb; have BK259 := n2_; clear n2_; clear hb hbox hg; have hnb33 := NB258_259.out; have hnc33 := NB259_258.out; have hcz34_0 := bc BK258 0; have hcz34_1 := bc BK258 1; have hfz34_0 := bf BK258 0; have hfz34_1 := bf BK258 1) | (refine gM (some 12) Try.func43 #[.slice A0 l0.length c0, .agg #[.int .i64 a1_0, .int .i64 a1_1]] (smear_right.calls k _ _ l0 a1_0 a1_1 true _ ?side1 ?side2 A3.out) ?_; (case side1 => exact cb HR0 HB); (case side2 => exact HC0.out); intro w35 hb; replace BK258 := kb BK258 hb; replace BK259 := kb BK259 hb; replace HB := bs HB hb; (try clear hb); have hcz36_0 := bc BK258 0; have hcz36_1 := bc BK258 1; have hfz36_0 := bf BK258 0; have hfz36_1 := bf BK258 1) | (refine gL (some 18) Try.func30 #[.slice A0 l0.length c0, .func (.func 44) #[] #[.pointer (some ⟨gb258, 0, none⟩)]] ?_; (with_reducible refine (smear_find.calls k _ _ l0 (44, a1_0) t261 t262 t263 true _ ?side1 ?side2 A5.out).mono ?_); (case side1 => exact cb HR0 HB); (case side2 => exact HC0.out); rintro e w37 ⟨rfl, hb⟩; refine ⟨_, rfl, ?_⟩; replace BK258 := kb BK258 hb; replace BK259 := kb BK259 hb; replace HB := bs HB hb; (try clear hb)) | ((with_reducible refine gate_dst (N := 6) rfl ?_); refine bx 6 #[.int .i64 0, .int .i64 0, .int .i64 0] 56 ?_; intro gb265 hg w38 hbox hb; have n3_ := Aside0.mk (hbox); have GW265 := gw HB hg; have GE265 := gw HB hg; have NB258_265 := nl BK258 hg; have NB265_258 := nr BK258 hg; have NB259_265 := nl BK259 hg; have NB265_259 := nr BK259 hg; replace BK258 := kb BK258 hb; replace BK259 := kb BK259 hb; replace HB := bs HB hb; have BK265 := n3_; clear n3_; clear hb hbox hg; have hnb39 := NB265_258.out; have hnc39 := NB258_265.out; have hnb40 := NB265_259.out; have hnc40 := NB259_265.out; have hcz41_0 := bc BK265 0; have hcz41_1 := bc BK265 1; have hcz41_2 := bc BK265 2; have hfz41_0 := bf BK265 0; have hfz41_1 := bf BK265 1; have hfz41_2 := bf BK265 2))
    have n0_ : Aside0 ((((w38.setCell ⟨gb265, 0, none⟩ (.int .i64 t261)).setCell ⟨gb265, 1, none⟩ (.int .i64 t262)).setCell ⟨gb265, 2, none⟩ (.int .i64 t263)).heap[gb258]? = some (.cells #[.int .i64 a1_0, .int .i64 a1_1] 24 (0, 0))) := kg BK258
    have n1_ : Aside0 ((((w38.setCell ⟨gb265, 0, none⟩ (.int .i64 t261)).setCell ⟨gb265, 1, none⟩ (.int .i64 t262)).setCell ⟨gb265, 2, none⟩ (.int .i64 t263)).heap[gb259]? = some (.cells #[.int .i64 0, .int .i64 0] 24 (0, 0))) := kg BK259
    have n2_ : Aside0 ((((w38.setCell ⟨gb265, 0, none⟩ (.int .i64 t261)).setCell ⟨gb265, 1, none⟩ (.int .i64 t262)).setCell ⟨gb265, 2, none⟩ (.int .i64 t263)).heap[gb265]? = some (.cells #[.int .i64 t261, .int .i64 t262, .int .i64 t263] 56 (0, 0))) := ⟨by (with_reducible repeat (first | refine blk_drewN ?_ _ | refine blk_drew ?_ | refine blk_alloc ?_ _)); refine blk_put (cs := #[.int .i64 t261, .int .i64 t262, .int .i64 0]) ?_ 2 _ rfl; (with_reducible repeat (first | refine blk_drewN ?_ _ | refine blk_drew ?_ | refine blk_alloc ?_ _)); refine blk_put (cs := #[.int .i64 t261, .int .i64 0, .int .i64 0]) ?_ 1 _ rfl; (with_reducible repeat (first | refine blk_drewN ?_ _ | refine blk_drew ?_ | refine blk_alloc ?_ _)); refine blk_put (cs := #[.int .i64 0, .int .i64 0, .int .i64 0]) ?_ 0 _ rfl; (with_reducible repeat (first | refine blk_drewN ?_ _ | refine blk_drew ?_ | refine blk_alloc ?_ _)); exact BK265.out⟩
    have n3_ : Aside0 (Below w.heap.size w (((w38.setCell ⟨gb265, 0, none⟩ (.int .i64 t261)).setCell ⟨gb265, 1, none⟩ (.int .i64 t262)).setCell ⟨gb265, 2, none⟩ (.int .i64 t263))) := ba HB
    (try clear BK258)
    (try clear BK259)
    (try clear BK265)
    (try clear HB)
    generalize (((w38.setCell ⟨gb265, 0, none⟩ (.int .i64 t261)).setCell ⟨gb265, 1, none⟩ (.int .i64 t262)).setCell ⟨gb265, 2, none⟩ (.int .i64 t263)) = w42 at n0_ n1_ n2_ n3_ ⊢
    have BK258 := n0_
    have BK259 := n1_
    have BK265 := n2_
    have HB := n3_
    clear n0_ n1_ n2_ n3_
    have n0_ := Aside0.mk (blk_drew BK258.out)
    have n1_ := Aside0.mk (blk_drew BK259.out)
    have n2_ := Aside0.mk (blk_drew BK265.out)
    have n3_ := Aside0.mk (below_drew1 HB.out)
    clear BK258
    clear BK259
    clear BK265
    clear HB
    have BK258 := n0_
    have BK259 := n1_
    have BK265 := n2_
    have HB := n3_
    clear n0_ n1_ n2_ n3_
    refine start_ (n := 12) (S := fun w' => w'.cell? ⟨gb258, 0, none⟩ = some (.int .i64 a1_0) ∧ w'.cell? ⟨gb258, 1, none⟩ = some (.int .i64 a1_1) ∧ w'.cell? ⟨gb265, 0, none⟩ = some (.int .i64 t261) ∧ w'.cell? ⟨gb265, 1, none⟩ = some (.int .i64 t262) ∧ w'.cell? ⟨gb265, 2, none⟩ = some (.int .i64 t263)) (ds := []) #[false, false, false, false, false, false, false, false, false, false, false, false] (by kernel_rfl) rfl rfl ⟨(blk_cell BK258.out 0).trans rfl, (blk_cell BK258.out 1).trans rfl, (blk_cell BK265.out 0).trans rfl, (blk_cell BK265.out 1).trans rfl, (blk_cell BK265.out 2).trans rfl⟩ (fun hHeld => ?_); refine with_tabW smear_Unsmear.tab5 smear_Unsmear.bits5 (fun HT_ HW_ => ?_)
    generalize w42.drew = w43 at BK258 BK259 BK265 HB hHeld ⊢
    refine pu HT_ 1 (some 24) #[false, true, false, false, false, false, false, false, false, false, false, false] ?_
    refine pu HT_ 4 (some 27) #[false, true, false, false, true, false, false, false, false, false, false, false] ?_
    refine take_ (i := 0) (N := some 23) (v := ?_) (a' := ?_) #[true, true, false, false, true, false, false, false, false, false, false, false] rfl rfl (take_ofW HT_.out HW_.out (by kernel_rfl)) (fun _ _ _ h => h) (Or.inl ⟨by rfl, ?_⟩) hHeld ?_ ?_
    rotate_left
    ·rintro w' ⟨s0, s1, s2, s3, s4⟩
     go_simp
     with_reducible rfl
    rotate_left
    ·simp only [Act.put, List.setIfInBounds_toArray, List.set_cons_zero, List.set_cons_succ, i64_w, i32_w]
     rfl
    refine take_ (i := 2) (N := some 25) (v := ?_) (a' := ?_) #[true, true, true, false, true, false, false, false, false, false, false, false] rfl rfl (take_ofW HT_.out HW_.out (by kernel_rfl)) (fun _ _ _ h => h) (Or.inl ⟨by rfl, ?_⟩) hHeld ?_ ?_
    rotate_left
    ·rintro w' ⟨s0, s1, s2, s3, s4⟩
     go_simp
     with_reducible rfl
    rotate_left
    ·simp only [Act.put, List.setIfInBounds_toArray, List.set_cons_zero, List.set_cons_succ, i64_w, i32_w]
     rfl
    refine take_ (i := 5) (N := some 28) (v := ?_) (a' := ?_) #[true, true, true, false, true, true, false, false, false, false, false, false] rfl rfl (take_ofW HT_.out HW_.out (by kernel_rfl)) (fun _ _ _ h => h) (Or.inl ⟨by rfl, ?_⟩) hHeld ?_ ?_
    rotate_left
    ·rintro w' ⟨s0, s1, s2, s3, s4⟩
     go_simp
     with_reducible rfl
    rotate_left
    ·simp only [Act.put, List.setIfInBounds_toArray, List.set_cons_zero, List.set_cons_succ, i64_w, i32_w]
     rfl
    refine one_ (i := 3) (N := some 26) #[true, true, true, true, true, true, false, false, false, false, false, false] rfl rfl (one_of HT_.out (by kernel_rfl)) (by decide) (fun K hK => ?_)
    refine goes_ Try.func39 (by kernel_rfl) rfl #[.agg #[.int .i64 a1_0, .int .i64 a1_1], .int .i64 t262] (by rfl) rfl rfl (by (try simp only [List.map_toArray, List.map_cons, List.map_nil]); first | done | rfl | (simp only [List.length_drop, List.length_take]; rfl)) ?_
    with_reducible refine (smear_nanos.calls a1_0 a1_1 t262 t266 _ A7.out).mono ?_
    rintro e w44 ⟨rfl, hb⟩
    refine ⟨_, rfl, ?_⟩
    have n0_ := kb BK258 hb
    have n1_ := kb BK259 hb
    have n2_ := kb BK265 hb
    have n3_ := bs HB hb
    clear BK258
    clear BK259
    clear BK265
    clear HB
    have BK258 := n0_
    have BK259 := n1_
    have BK265 := n2_
    have HB := n3_
    clear n0_ n1_ n2_ n3_
    (try clear hb)
    (try clear hb2)
    (try clear hk)
    (try clear hi)
    refine hK.out _ _ ⟨(blk_cell BK258.out 0).trans rfl, (blk_cell BK258.out 1).trans rfl, (blk_cell BK265.out 0).trans rfl, (blk_cell BK265.out 1).trans rfl, (blk_cell BK265.out 2).trans rfl⟩ (fun hHeld => ?_)
    clear hK K
    refine norm_ (a' := ?_) ?_ ?_
    rotate_left
    ·show Act.put _ (some 26) _ = _
     simp only [Act.put, List.setIfInBounds_toArray, List.set_cons_zero, List.set_cons_succ, i64_w, i32_w]
     rfl
    refine one_ (i := 6) (N := some 29) #[true, true, true, true, true, true, true, false, false, false, false, false] rfl rfl (one_of HT_.out (by kernel_rfl)) (by decide) (fun K hK => ?_)
    refine goes_ Try.func45 (by kernel_rfl) rfl #[.int .i64 t266, .int .i64 t263, .int .i64 86400] (by rfl) rfl rfl (by (try simp only [List.map_toArray, List.map_cons, List.map_nil]); first | done | rfl | (simp only [List.length_drop, List.length_take]; rfl)) ?_
    with_reducible refine (wide_Up.calls k t266 t263 86400 t267 t268 _ A8.out).mono ?_
    rintro e w' ⟨rfl, ⟨nd, rfl⟩⟩
    refine ⟨_, rfl, ?_⟩
    refine hK.out _ _ ⟨(blk_cell BK258.out 0).trans rfl, (blk_cell BK258.out 1).trans rfl, (blk_cell BK265.out 0).trans rfl, (blk_cell BK265.out 1).trans rfl, (blk_cell BK265.out 2).trans rfl⟩ (fun hHeld => ?_)
    clear hK K
    refine norm_ (a' := ?_) ?_ ?_
    rotate_left
    ·show Act.put _ (some 29) _ = _
     simp only [Act.put, List.setIfInBounds_toArray, List.set_cons_zero, List.set_cons_succ, i64_w, i32_w]
     rfl
    refine pu HT_ 7 (some 22) #[true, true, true, true, true, true, true, true, false, false, false, false] ?_
    refine pu HT_ 8 (some 30) #[true, true, true, true, true, true, true, true, true, false, false, false] ?_
    refine pu HT_ 9 (some 31) #[true, true, true, true, true, true, true, true, true, true, false, false] ?_
    refine pu HT_ 10 (some 8) #[true, true, true, true, true, true, true, true, true, true, true, false] ?_
    refine pu HT_ 11 (some 9) #[true, true, true, true, true, true, true, true, true, true, true, true] ?_
    refine done_ (done_of HT_.out (by kernel_rfl)) ?_
    have hcz45_0 := bc BK265 0
    have hcz45_1 := bc BK265 1
    have hcz45_2 := bc BK265 2
    have hfz45_0 := bf BK265 0
    have hfz45_1 := bf BK265 1
    have hfz45_2 := bf BK265 2
    try go_wp2_with (first | (refine gM (some 35) Try.func40 #[.int .i64 t261, .int .i64 t267] (smear_later.calls t261 t267 t269 t270 _ A9.out) ?_; intro w46 hb; replace BK258 := kb BK258 hb; replace BK259 := kb BK259 hb; replace BK265 := kb BK265 hb; replace HB := bs HB hb; (try clear hb); have hcz47_0 := bc BK259 0; have hcz47_1 := bc BK259 1; have hfz47_0 := bf BK259 0; have hfz47_1 := bf BK259 1) | (refine gM (some 40) Try.func21 #[.slice A0 l0.length c0, .int .i64 t269] (scale_Utc.calls k _ _ l0 t269 t271 t272 t273 _ ?side1 ?side2 A10.out) ?_; (case side1 => exact cb HR0 HB); (case side2 => exact HC0.out); intro w48 hb; have n0_ := kf BK258 hb; have n1_ := Aside0.mk (blk_below (g := gb259) (o := .cells #[.int .i64 t269, .int .i64 t270] 24 (0, 0)) (by (with_reducible repeat (first | refine blk_drewN ?_ _ | refine blk_drew ?_ | refine blk_alloc ?_ _)); refine blk_put (cs := #[.int .i64 t269, .int .i64 0]) ?_ 1 _ rfl; (with_reducible repeat (first | refine blk_drewN ?_ _ | refine blk_drew ?_ | refine blk_alloc ?_ _)); refine blk_put (cs := #[.int .i64 0, .int .i64 0]) ?_ 0 _ rfl; (with_reducible repeat (first | refine blk_drewN ?_ _ | refine blk_drew ?_ | refine blk_alloc ?_ _)); exact BK259.out) hb); have n2_ := kf BK265 hb; replace HB := bs HB hb; clear BK258; clear BK259; clear BK265; have BK258 := n0_; have BK259 := n1_; have BK265 := n2_; clear n0_ n1_ n2_; (try clear hb); have hcz49_0 := bc BK259 0; have hcz49_1 := bc BK259 1; have hfz49_0 := bf BK259 0; have hfz49_1 := bf BK259 1))
    refine bodyPost_ret (results_ct rfl _ _ gb259 24 #[.int .i64 0, .int .i64 0] (0, 0) _ rfl (by (with_reducible repeat (first | refine blk_drewN ?_ _ | refine blk_drew ?_ | refine blk_alloc ?_ _)); refine blk_put (cs := #[.int .i64 0, .int .i64 t270]) ?_ 1 _ rfl; (with_reducible repeat (first | refine blk_drewN ?_ _ | refine blk_drew ?_ | refine blk_alloc ?_ _)); refine blk_put (cs := #[.int .i64 t269, .int .i64 t270]) ?_ 0 _ rfl; (with_reducible repeat (first | refine blk_drewN ?_ _ | refine blk_drew ?_ | refine blk_alloc ?_ _)); exact BK259.out) Try.underlying24 rfl (by kernel_rfl)) rfl ?_
    exact fi HB
  ·replace c6 := Bool.eq_false_iff.mpr c6
   subst c6
   rw [if_neg (show ¬ (false = true) by decide)] at H
   obtain ⟨⟨t274, t275⟩, A50, H⟩ := bnd H
   try dsimp only at H
   by_cases c51 : t275 = 0
   ·rw [if_pos c51] at H
    have c51b0 : (t275 == 0) = true := beq_iff_eq.mpr c51
    have c51b1 : (t275 != 0) = false := bne_eq_false_iff_eq.mpr c51
    clear c51
    simp only [Option.some.injEq, Prod.mk.injEq] at H
    obtain ⟨rfl, rfl, rfl⟩ := H
    go_enter Try.func15, Try.ntmps15
    go_wp2_with (first | ((with_reducible refine gate_dst (N := 3) rfl ?_); refine bx 3 #[.int .i64 a1_0, .int .i64 a1_1] 24 ?_; intro gb258 hg w52 hbox hb; have n1_ := Aside0.mk (hbox); have GW258 := gw HB hg; have GE258 := gw HB hg; replace HB := bs HB hb; have BK258 := n1_; clear n1_; clear hb hbox hg) | ((with_reducible refine gate_dst (N := 4) rfl ?_); refine bx 4 #[.int .i64 0, .int .i64 0] 24 ?_; intro gb259 hg w53 hbox hb; have n2_ := Aside0.mk (hbox); have GW259 := gw HB hg; have GE259 := gw HB hg; have NB258_259 := nl BK258 hg; have NB259_258 := nr BK258 hg; replace BK258 := kb BK258 hb; replace HB := bs HB hb; have BK259 := n2_; clear n2_; clear hb hbox hg; have hnb54 := NB258_259.out; have hnc54 := NB259_258.out; have hcz55_0 := bc BK258 0; have hcz55_1 := bc BK258 1; have hfz55_0 := bf BK258 0; have hfz55_1 := bf BK258 1) | (refine gM (some 12) Try.func43 #[.slice A0 l0.length c0, .agg #[.int .i64 a1_0, .int .i64 a1_1]] (smear_right.calls k _ _ l0 a1_0 a1_1 true _ ?side1 ?side2 A3.out) ?_; (case side1 => exact cb HR0 HB); (case side2 => exact HC0.out); intro w56 hb; replace BK258 := kb BK258 hb; replace BK259 := kb BK259 hb; replace HB := bs HB hb; (try clear hb); have hcz57_0 := bc BK258 0; have hcz57_1 := bc BK258 1; have hfz57_0 := bf BK258 0; have hfz57_1 := bf BK258 1) | (refine gL (some 18) Try.func30 #[.slice A0 l0.length c0, .func (.func 44) #[] #[.pointer (some ⟨gb258, 0, none⟩)]] ?_; (with_reducible refine (smear_find.calls k _ _ l0 (44, a1_0) t261 t262 t263 false _ ?side1 ?side2 A5.out).mono ?_); (case side1 => exact cb HR0 HB); (case side2 => exact HC0.out); rintro e w58 ⟨rfl, hb⟩; refine ⟨_, rfl, ?_⟩; replace BK258 := kb BK258 hb; replace BK259 := kb BK259 hb; replace HB := bs HB hb; (try clear hb)) | ((with_reducible refine gate_dst (N := 6) rfl ?_); refine bx 6 #[.int .i64 0, .int .i64 0, .int .i64 0] 56 ?_; intro gb265 hg w59 hbox hb; have n3_ := Aside0.mk (hbox); have GW265 := gw HB hg; have GE265 := gw HB hg; have NB258_265 := nl BK258 hg; have NB265_258 := nr BK258 hg; have NB259_265 := nl BK259 hg; have NB265_259 := nr BK259 hg; replace BK258 := kb BK258 hb; replace BK259 := kb BK259 hb; replace HB := bs HB hb; have BK265 := n3_; clear n3_; clear hb hbox hg; have hnb60 := NB265_258.out; have hnc60 := NB258_265.out; have hnb61 := NB265_259.out; have hnc61 := NB259_265.out; have hcz62_0 := bc BK265 0; have hcz62_1 := bc BK265 1; have hcz62_2 := bc BK265 2; have hfz62_0 := bf BK265 0; have hfz62_1 := bf BK265 1; have hfz62_2 := bf BK265 2; have hcz63_0 := bc BK258 0; have hcz63_1 := bc BK258 1; have hfz63_0 := bf BK258 0; have hfz63_1 := bf BK258 1; have hcz64_0 := bc BK259 0; have hcz64_1 := bc BK259 1; have hfz64_0 := bf BK259 0; have hfz64_1 := bf BK259 1) | (refine gM (some 51) Try.func46 #[.slice A0 l0.length c0, .int .i64 a1_0] (posix_Tai.calls k _ _ l0 a1_0 t274 t275 _ ?side1 ?side2 A50.out) ?_; (case side1 => exact cb HR0 HB); (case side2 => exact HC0.out); intro w65 hb; have n0_ := kf BK258 hb; have n1_ := Aside0.mk (blk_below (g := gb259) (o := .cells #[.int .i64 0, .int .i64 a1_1] 24 (0, 0)) (by (with_reducible repeat (first | refine blk_drewN ?_ _ | refine blk_drew ?_ | refine blk_alloc ?_ _)); refine blk_put (cs := #[.int .i64 0, .int .i64 0]) ?_ 1 _ rfl; (with_reducible repeat (first | refine blk_drewN ?_ _ | refine blk_drew ?_ | refine blk_alloc ?_ _)); refine blk_far ?_ NB259_265.out _; (with_reducible repeat (first | refine blk_drewN ?_ _ | refine blk_drew ?_ | refine blk_alloc ?_ _)); refine blk_far ?_ NB259_265.out _; (with_reducible repeat (first | refine blk_drewN ?_ _ | refine blk_drew ?_ | refine blk_alloc ?_ _)); refine blk_far ?_ NB259_265.out _; (with_reducible repeat (first | refine blk_drewN ?_ _ | refine blk_drew ?_ | refine blk_alloc ?_ _)); exact BK259.out) hb); have n2_ := Aside0.mk (blk_below (g := gb265) (o := .cells #[.int .i64 t261, .int .i64 t262, .int .i64 t263] 56 (0, 0)) (by (with_reducible repeat (first | refine blk_drewN ?_ _ | refine blk_drew ?_ | refine blk_alloc ?_ _)); refine blk_far ?_ NB265_259.out _; (with_reducible repeat (first | refine blk_drewN ?_ _ | refine blk_drew ?_ | refine blk_alloc ?_ _)); refine blk_put (cs := #[.int .i64 t261, .int .i64 t262, .int .i64 0]) ?_ 2 _ rfl; (with_reducible repeat (first | refine blk_drewN ?_ _ | refine blk_drew ?_ | refine blk_alloc ?_ _)); refine blk_put (cs := #[.int .i64 t261, .int .i64 0, .int .i64 0]) ?_ 1 _ rfl; (with_reducible repeat (first | refine blk_drewN ?_ _ | refine blk_drew ?_ | refine blk_alloc ?_ _)); refine blk_put (cs := #[.int .i64 0, .int .i64 0, .int .i64 0]) ?_ 0 _ rfl; (with_reducible repeat (first | refine blk_drewN ?_ _ | refine blk_drew ?_ | refine blk_alloc ?_ _)); exact BK265.out) hb); replace HB := bs HB hb; clear BK258; clear BK259; clear BK265; have BK258 := n0_; have BK259 := n1_; have BK265 := n2_; clear n0_ n1_ n2_; (try clear hb); have hcz66_0 := bc BK259 0; have hcz66_1 := bc BK259 1; have hfz66_0 := bf BK259 0; have hfz66_1 := bf BK259 1))
    refine bodyPost_ret (results_ct rfl _ _ gb259 24 #[.int .i64 t274, .int .i64 a1_1] (0, 0) _ rfl (by (with_reducible repeat (first | refine blk_drewN ?_ _ | refine blk_drew ?_ | refine blk_alloc ?_ _)); refine blk_put (cs := #[.int .i64 t274, .int .i64 a1_1]) ?_ 1 _ rfl; (with_reducible repeat (first | refine blk_drewN ?_ _ | refine blk_drew ?_ | refine blk_alloc ?_ _)); refine blk_put (cs := #[.int .i64 t274, .int .i64 a1_1]) ?_ 0 _ rfl; (with_reducible repeat (first | refine blk_drewN ?_ _ | refine blk_drew ?_ | refine blk_alloc ?_ _)); refine blk_put (cs := #[.int .i64 0, .int .i64 a1_1]) ?_ 0 _ rfl; (with_reducible repeat (first | refine blk_drewN ?_ _ | refine blk_drew ?_ | refine blk_alloc ?_ _)); exact BK259.out) Try.underlying24 rfl (by kernel_rfl)) rfl ?_
    exact fi HB
   ·rw [if_neg c51] at H
    have c51b0 : (t275 == 0) = false := beq_eq_false_iff_ne.mpr c51
    have c51b1 : (t275 != 0) = true := bne_iff_ne.mpr c51
    simp only [Option.some.injEq, Prod.mk.injEq] at H
    obtain ⟨rfl, rfl, rfl⟩ := H
    go_enter Try.func15, Try.ntmps15
    go_wp2_with (first | ((with_reducible refine gate_dst (N := 3) rfl ?_); refine bx 3 #[.int .i64 a1_0, .int .i64 a1_1] 24 ?_; intro gb258 hg w67 hbox hb; have n1_ := Aside0.mk (hbox); have GW258 := gw HB hg; have GE258 := gw HB hg; replace HB := bs HB hb; have BK258 := n1_; clear n1_; clear hb hbox hg) | ((with_reducible refine gate_dst (N := 4) rfl ?_); refine bx 4 #[.int .i64 0, .int .i64 0] 24 ?_; intro gb259 hg w68 hbox hb; have n2_ := Aside0.mk (hbox); have GW259 := gw HB hg; have GE259 := gw HB hg; have NB258_259 := nl BK258 hg; have NB259_258 := nr BK258 hg; replace BK258 := kb BK258 hb; replace HB := bs HB hb; have BK259 := n2_; clear n2_; clear hb hbox hg; have hnb69 := NB258_259.out; have hnc69 := NB259_258.out; have hcz70_0 := bc BK258 0; have hcz70_1 := bc BK258 1; have hfz70_0 := bf BK258 0; have hfz70_1 := bf BK258 1) | (refine gM (some 12) Try.func43 #[.slice A0 l0.length c0, .agg #[.int .i64 a1_0, .int .i64 a1_1]] (smear_right.calls k _ _ l0 a1_0 a1_1 true _ ?side1 ?side2 A3.out) ?_; (case side1 => exact cb HR0 HB); (case side2 => exact HC0.out); intro w71 hb; replace BK258 := kb BK258 hb; replace BK259 := kb BK259 hb; replace HB := bs HB hb; (try clear hb); have hcz72_0 := bc BK258 0; have hcz72_1 := bc BK258 1; have hfz72_0 := bf BK258 0; have hfz72_1 := bf BK258 1) | (refine gL (some 18) Try.func30 #[.slice A0 l0.length c0, .func (.func 44) #[] #[.pointer (some ⟨gb258, 0, none⟩)]] ?_; (with_reducible refine (smear_find.calls k _ _ l0 (44, a1_0) t261 t262 t263 false _ ?side1 ?side2 A5.out).mono ?_); (case side1 => exact cb HR0 HB); (case side2 => exact HC0.out); rintro e w73 ⟨rfl, hb⟩; refine ⟨_, rfl, ?_⟩; replace BK258 := kb BK258 hb; replace BK259 := kb BK259 hb; replace HB := bs HB hb; (try clear hb)) | ((with_reducible refine gate_dst (N := 6) rfl ?_); refine bx 6 #[.int .i64 0, .int .i64 0, .int .i64 0] 56 ?_; intro gb265 hg w74 hbox hb; have n3_ := Aside0.mk (hbox); have GW265 := gw HB hg; have GE265 := gw HB hg; have NB258_265 := nl BK258 hg; have NB265_258 := nr BK258 hg; have NB259_265 := nl BK259 hg; have NB265_259 := nr BK259 hg; replace BK258 := kb BK258 hb; replace BK259 := kb BK259 hb; replace HB := bs HB hb; have BK265 := n3_; clear n3_; clear hb hbox hg; have hnb75 := NB265_258.out; have hnc75 := NB258_265.out; have hnb76 := NB265_259.out; have hnc76 := NB259_265.out; have hcz77_0 := bc BK265 0; have hcz77_1 := bc BK265 1; have hcz77_2 := bc BK265 2; have hfz77_0 := bf BK265 0; have hfz77_1 := bf BK265 1; have hfz77_2 := bf BK265 2; have hcz78_0 := bc BK258 0; have hcz78_1 := bc BK258 1; have hfz78_0 := bf BK258 0; have hfz78_1 := bf BK258 1; have hcz79_0 := bc BK259 0; have hcz79_1 := bc BK259 1; have hfz79_0 := bf BK259 0; have hfz79_1 := bf BK259 1) | (refine gM (some 51) Try.func46 #[.slice A0 l0.length c0, .int .i64 a1_0] (posix_Tai.calls k _ _ l0 a1_0 t274 t275 _ ?side1 ?side2 A50.out) ?_; (case side1 => exact cb HR0 HB); (case side2 => exact HC0.out); intro w80 hb; have n0_ := kf BK258 hb; have n1_ := Aside0.mk (blk_below (g := gb259) (o := .cells #[.int .i64 0, .int .i64 a1_1] 24 (0, 0)) (by (with_reducible repeat (first | refine blk_drewN ?_ _ | refine blk_drew ?_ | refine blk_alloc ?_ _)); refine blk_put (cs := #[.int .i64 0, .int .i64 0]) ?_ 1 _ rfl; (with_reducible repeat (first | refine blk_drewN ?_ _ | refine blk_drew ?_ | refine blk_alloc ?_ _)); refine blk_far ?_ NB259_265.out _; (with_reducible repeat (first | refine blk_drewN ?_ _ | refine blk_drew ?_ | refine blk_alloc ?_ _)); refine blk_far ?_ NB259_265.out _; (with_reducible repeat (first | refine blk_drewN ?_ _ | refine blk_drew ?_ | refine blk_alloc ?_ _)); refine blk_far ?_ NB259_265.out _; (with_reducible repeat (first | refine blk_drewN ?_ _ | refine blk_drew ?_ | refine blk_alloc ?_ _)); exact BK259.out) hb); have n2_ := Aside0.mk (blk_below (g := gb265) (o := .cells #[.int .i64 t261, .int .i64 t262, .int .i64 t263] 56 (0, 0)) (by (with_reducible repeat (first | refine blk_drewN ?_ _ | refine blk_drew ?_ | refine blk_alloc ?_ _)); refine blk_far ?_ NB265_259.out _; (with_reducible repeat (first | refine blk_drewN ?_ _ | refine blk_drew ?_ | refine blk_alloc ?_ _)); refine blk_put (cs := #[.int .i64 t261, .int .i64 t262, .int .i64 0]) ?_ 2 _ rfl; (with_reducible repeat (first | refine blk_drewN ?_ _ | refine blk_drew ?_ | refine blk_alloc ?_ _)); refine blk_put (cs := #[.int .i64 t261, .int .i64 0, .int .i64 0]) ?_ 1 _ rfl; (with_reducible repeat (first | refine blk_drewN ?_ _ | refine blk_drew ?_ | refine blk_alloc ?_ _)); refine blk_put (cs := #[.int .i64 0, .int .i64 0, .int .i64 0]) ?_ 0 _ rfl; (with_reducible repeat (first | refine blk_drewN ?_ _ | refine blk_drew ?_ | refine blk_alloc ?_ _)); exact BK265.out) hb); replace HB := bs HB hb; clear BK258; clear BK259; clear BK265; have BK258 := n0_; have BK259 := n1_; have BK265 := n2_; clear n0_ n1_ n2_; (try clear hb); have hcz81_0 := bc BK259 0; have hcz81_1 := bc BK259 1; have hfz81_0 := bf BK259 0; have hfz81_1 := bf BK259 1))
    refine bodyPost_ret (results_ct rfl _ _ gb259 24 #[.int .i64 0, .int .i64 0] (0, 0) _ rfl (by (with_reducible repeat (first | refine blk_drewN ?_ _ | refine blk_drew ?_ | refine blk_alloc ?_ _)); refine blk_put (cs := #[.int .i64 0, .int .i64 a1_1]) ?_ 1 _ rfl; (with_reducible repeat (first | refine blk_drewN ?_ _ | refine blk_drew ?_ | refine blk_alloc ?_ _)); refine blk_put (cs := #[.int .i64 t274, .int .i64 a1_1]) ?_ 0 _ rfl; (with_reducible repeat (first | refine blk_drewN ?_ _ | refine blk_drew ?_ | refine blk_alloc ?_ _)); refine blk_put (cs := #[.int .i64 0, .int .i64 a1_1]) ?_ 0 _ rfl; (with_reducible repeat (first | refine blk_drewN ?_ _ | refine blk_drew ?_ | refine blk_alloc ?_ _)); exact BK259.out) Try.underlying24 rfl (by kernel_rfl)) rfl ?_
    exact fi HB
 ·replace c4 := Bool.eq_false_iff.mpr c4
  subst c4
  rw [if_neg (show ¬ (false = true) by decide)] at H
  simp only [Option.some.injEq, Prod.mk.injEq] at H
  obtain ⟨rfl, rfl, rfl⟩ := H
  go_enter Try.func15, Try.ntmps15
  go_wp2_with (first | ((with_reducible refine gate_dst (N := 3) rfl ?_); refine bx 3 #[.int .i64 a1_0, .int .i64 a1_1] 24 ?_; intro gb258 hg w82 hbox hb; have n1_ := Aside0.mk (hbox); have GW258 := gw HB hg; have GE258 := gw HB hg; replace HB := bs HB hb; have BK258 := n1_; clear n1_; clear hb hbox hg) | ((with_reducible refine gate_dst (N := 4) rfl ?_); refine bx 4 #[.int .i64 0, .int .i64 0] 24 ?_; intro gb259 hg w83 hbox hb; have n2_ := Aside0.mk (hbox); have GW259 := gw HB hg; have GE259 := gw HB hg; have NB258_259 := nl BK258 hg; have NB259_258 := nr BK258 hg; replace BK258 := kb BK258 hb; replace HB := bs HB hb; have BK259 := n2_; clear n2_; clear hb hbox hg; have hnb84 := NB258_259.out; have hnc84 := NB259_258.out; have hcz85_0 := bc BK258 0; have hcz85_1 := bc BK258 1; have hfz85_0 := bf BK258 0; have hfz85_1 := bf BK258 1) | (refine gM (some 12) Try.func43 #[.slice A0 l0.length c0, .agg #[.int .i64 a1_0, .int .i64 a1_1]] (smear_right.calls k _ _ l0 a1_0 a1_1 false _ ?side1 ?side2 A3.out) ?_; (case side1 => exact cb HR0 HB); (case side2 => exact HC0.out); intro w86 hb; replace BK258 := kb BK258 hb; replace BK259 := kb BK259 hb; replace HB := bs HB hb; (try clear hb); have hcz87_0 := bc BK259 0; have hcz87_1 := bc BK259 1; have hfz87_0 := bf BK259 0; have hfz87_1 := bf BK259 1))
  refine bodyPost_ret (results_ct rfl _ _ gb259 24 #[.int .i64 0, .int .i64 0] (0, 0) _ rfl (by (with_reducible repeat (first | refine blk_drewN ?_ _ | refine blk_drew ?_ | refine blk_alloc ?_ _)); refine blk_put (cs := #[.int .i64 0, .int .i64 0]) ?_ 1 _ rfl; (with_reducible repeat (first | refine blk_drewN ?_ _ | refine blk_drew ?_ | refine blk_alloc ?_ _)); refine blk_put (cs := #[.int .i64 0, .int .i64 0]) ?_ 0 _ rfl; (with_reducible repeat (first | refine blk_drewN ?_ _ | refine blk_drew ?_ | refine blk_alloc ?_ _)); exact BK259.out) Try.underlying24 rfl (by kernel_rfl)) rfl ?_
  exact fi HB

/-! ### smear_Less: function 19 -/
def smear_Less.f (a0_0 : Int) (a0_1 : Int) (a1_0 : Int) (a1_1 : Int) : Option (Bool) := if (!(a0_0 == a1_0) || (!(a0_1 == a1_1))) = true then (if a0_0 < a1_0 then (some true) else (if a0_0 = a1_0 then (some (decide (a0_1 < a1_1))) else (some false))) else (some false)
set_option maxHeartbeats 8000000 in
set_option maxRecDepth 100000 in
theorem smear_Less.calls (a0_0 : Int) (a0_1 : Int) (a1_0 : Int) (a1_1 : Int) (r : Bool) (w : World) (h : smear_Less.f a0_0 a0_1 a1_0 a1_1 = some r) :
  Calls Try.prog 19 #[.agg #[.int .i64 a0_0, .int .i64 a0_1], .agg #[.int .i64 a1_0, .int .i64 a1_1]] w fun e w' => e = .returned (.bool r) ∧ Below w.heap.size w w' := by
 have hu24 := Try.underlying24
 have HB := Aside0.mk (Below.refl w.heap.size w)
 have H : (if (!(a0_0 == a1_0) || (!(a0_1 == a1_1))) = true then (if a0_0 < a1_0 then (some true) else (if a0_0 = a1_0 then (some (decide (a0_1 < a1_1))) else (some false))) else (some false)) = some r := h
 clear h
 by_cases c3 : (!(a0_0 == a1_0) || (!(a0_1 == a1_1))) = true
 ·rw [if_pos c3] at H
  have c3b0 : (!(a0_0 == a1_0) || (!(a0_1 == a1_1))) = true := c3
  clear c3
  by_cases c4 : a0_0 < a1_0
  ·rw [if_pos c4] at H
   have c4b0 : decide (a0_0 < a1_0) = true := decide_eq_true c4
   clear c4
   obtain rfl := Option.some.inj H
   go_enter Try.func19, Try.ntmps19
   go_wp2_with (first | ((with_reducible refine gate_dst (N := 2) rfl ?_); refine bx 2 #[.int .i64 a0_0, .int .i64 a0_1] 24 ?_; intro gb276 hg w5 hbox hb; have n1_ := Aside0.mk (hbox); have GW276 := gw HB hg; have GE276 := gw HB hg; replace HB := bs HB hb; have BK276 := n1_; clear n1_; clear hb hbox hg) | ((with_reducible refine gate_dst (N := 3) rfl ?_); refine bx 3 #[.int .i64 a1_0, .int .i64 a1_1] 24 ?_; intro gb277 hg w6 hbox hb; have n2_ := Aside0.mk (hbox); have GW277 := gw HB hg; have GE277 := gw HB hg; have NB276_277 := nl BK276 hg; have NB277_276 := nr BK276 hg; replace BK276 := kb BK276 hb; replace HB := bs HB hb; have BK277 := n2_; clear n2_; clear hb hbox hg; have hnb7 := NB276_277.out; have hnc7 := NB277_276.out; have hcz8_0 := bc BK276 0; have hcz8_1 := bc BK276 1; have hfz8_0 := bf BK276 0; have hfz8_1 := bf BK276 1; have hcz9_0 := bc BK277 0; have hcz9_1 := bc BK277 1; have hfz9_0 := bf BK277 0; have hfz9_1 := bf BK277 1))
   go_ret
   exact fi HB
  ·rw [if_neg c4] at H
   have c4b0 : decide (a0_0 < a1_0) = false := decide_eq_false c4
   clear c4
   by_cases c10 : a0_0 = a1_0
   ·rw [if_pos c10] at H
    have c10b0 : (a0_0 == a1_0) = true := beq_iff_eq.mpr c10
    have c10b0o : (!(a0_1 == a1_1)) = true := by have q_ := c3b0; rw [c10b0] at q_; simpa using q_
    have c10b1 : (a0_0 != a1_0) = false := bne_eq_false_iff_eq.mpr c10
    clear c10
    obtain rfl := Option.some.inj H
    go_enter Try.func19, Try.ntmps19
    go_wp2_with (first | ((with_reducible refine gate_dst (N := 2) rfl ?_); refine bx 2 #[.int .i64 a0_0, .int .i64 a0_1] 24 ?_; intro gb276 hg w11 hbox hb; have n1_ := Aside0.mk (hbox); have GW276 := gw HB hg; have GE276 := gw HB hg; replace HB := bs HB hb; have BK276 := n1_; clear n1_; clear hb hbox hg) | ((with_reducible refine gate_dst (N := 3) rfl ?_); refine bx 3 #[.int .i64 a1_0, .int .i64 a1_1] 24 ?_; intro gb277 hg w12 hbox hb; have n2_ := Aside0.mk (hbox); have GW277 := gw HB hg; have GE277 := gw HB hg; have NB276_277 := nl BK276 hg; have NB277_276 := nr BK276 hg; replace BK276 := kb BK276 hb; replace HB := bs HB hb; have BK277 := n2_; clear n2_; clear hb hbox hg; have hnb13 := NB276_277.out; have hnc13 := NB277_276.out; have hcz14_0 := bc BK276 0; have hcz14_1 := bc BK276 1; have hfz14_0 := bf BK276 0; have hfz14_1 := bf BK276 1; have hcz15_0 := bc BK277 0; have hcz15_1 := bc BK277 1; have hfz15_0 := bf BK277 0; have hfz15_1 := bf BK277 1))
    go_ret
    exact fi HB
   ·rw [if_neg c10] at H
    have c10b0 : (a0_0 == a1_0) = false := beq_eq_false_iff_ne.mpr c10
    have c10b1 : (a0_0 != a1_0) = true := bne_iff_ne.mpr c10
    obtain rfl := Option.some.inj H
    go_enter Try.func19, Try.ntmps19
    go_wp2_with (first | ((with_reducible refine gate_dst (N := 2) rfl ?_); refine bx 2 #[.int .i64 a0_0, .int .i64 a0_1] 24 ?_; intro gb276 hg w16 hbox hb; have n1_ := Aside0.mk (hbox); have GW276 := gw HB hg; have GE276 := gw HB hg; replace HB := bs HB hb; have BK276 := n1_; clear n1_; clear hb hbox hg) | ((with_reducible refine gate_dst (N := 3) rfl ?_); refine bx 3 #[.int .i64 a1_0, .int .i64 a1_1] 24 ?_; intro gb277 hg w17 hbox hb; have n2_ := Aside0.mk (hbox); have GW277 := gw HB hg; have GE277 := gw HB hg; have NB276_277 := nl BK276 hg; have NB277_276 := nr BK276 hg; replace BK276 := kb BK276 hb; replace HB := bs HB hb; have BK277 := n2_; clear n2_; clear hb hbox hg; have hnb18 := NB276_277.out; have hnc18 := NB277_276.out; have hcz19_0 := bc BK276 0; have hcz19_1 := bc BK276 1; have hfz19_0 := bf BK276 0; have hfz19_1 := bf BK276 1; have hcz20_0 := bc BK277 0; have hcz20_1 := bc BK277 1; have hfz20_0 := bf BK277 0; have hfz20_1 := bf BK277 1))
    go_ret
    exact fi HB
 ·rw [if_neg c3] at H
  have c3b0 : (!(a0_0 == a1_0) || (!(a0_1 == a1_1))) = false := by first | (simp; done) | (simp at c3; done) | simpa using c3
  clear c3
  obtain rfl := Option.some.inj H
  go_enter Try.func19, Try.ntmps19
  go_wp2_with (first | ((with_reducible refine gate_dst (N := 2) rfl ?_); refine bx 2 #[.int .i64 a0_0, .int .i64 a0_1] 24 ?_; intro gb276 hg w21 hbox hb; have n1_ := Aside0.mk (hbox); have GW276 := gw HB hg; have GE276 := gw HB hg; replace HB := bs HB hb; have BK276 := n1_; clear n1_; clear hb hbox hg) | ((with_reducible refine gate_dst (N := 3) rfl ?_); refine bx 3 #[.int .i64 a1_0, .int .i64 a1_1] 24 ?_; intro gb277 hg w22 hbox hb; have n2_ := Aside0.mk (hbox); have GW277 := gw HB hg; have GE277 := gw HB hg; have NB276_277 := nl BK276 hg; have NB277_276 := nr BK276 hg; replace BK276 := kb BK276 hb; replace HB := bs HB hb; have BK277 := n2_; clear n2_; clear hb hbox hg; have hnb23 := NB276_277.out; have hnc23 := NB277_276.out; have hcz24_0 := bc BK276 0; have hcz24_1 := bc BK276 1; have hfz24_0 := bf BK276 0; have hfz24_1 := bf BK276 1; have hcz25_0 := bc BK277 0; have hcz25_1 := bc BK277 1; have hfz25_0 := bf BK277 0; have hfz25_1 := bf BK277 1))
  go_ret
  exact fi HB

end Go.Proofs.Ythoigncoojcanaa.PAll
