-- Written for this claim by wip/tools of this repo (after the kit's print; own contracts laid in).
import Derived.Test.YtfmibhepehhljaaPAllx0
import Derived.Test.YtfmibhepehhljaaShort
import Derived.Test.YtfmibhepehhljaaPAllx3
import Derived.Test.YtfmibhepehhljaaPAllx4
import Derived.Test.YtfmibhepehhljaaPAllx5
import Derived.Test.YtfmibhepehhljaaPAllx7
import Derived.Test.YtfmibhepehhljaaPAllx8
namespace Go.Proofs.Ytfmibhepehhljaa.PAll
open Go.RowKit Go.Proofs.YtfmibhepehhljaaW.PrintWords Go.Proofs.YtfmibhepehhljaaW.PrintLast Go.Proofs.YtfmibhepehhljaaW.PrintMore
attribute [local go_sem] max2_int min2_int max_two min_two max_three min_three max_four min_four   -- for this text's walks alone
set_option linter.unusedVariables false
set_option linter.unusedSimpArgs false

/-! ### epactlaw09_LeapTells: function 3 -/
mutual
def epactlaw09_LeapTells.j0 : Nat → Int → Bool → Bool → List (S26) → Bool → Int → Int → Int → Bool → List (S26) → Bool → Int → Option (Bool)
  | 0, _, _, _, _, _, _, _, _, _, _, _, _ => none
  | k + 1, x1, x9, x28, x266000, x266001, x266002, x267000, x267001, x267002, x268000, x268001, x268002 => if x28 = true then (some x9) else ((leap_Check.f k x266000 x266001 x266002).bind fun bt271 => ((epactref09_Check.f k x266000 x266001 x266002).bind fun bt273 => (if bt271.1 = bt273.1 then (if bt271.2 = bt273.2 then ((leap_Right.f k x266000 x266001 x266002).bind fun t275 => ((epactref09_Right.f k x266000 x266001 x266002).bind fun t276 => (if (t275 != t276) = true then (epactlaw09_LeapTells.j1 k x1 x9 true x266000 x266001 x266002 x267000 x267001 x267002) else ((leap_Same.f k x266000 x266001 x266002 x268000 x268001 x268002).bind fun t277 => ((epactref09_Same.f k x266000 x266001 x266002 x268000 x268001 x268002).bind fun t278 => (epactlaw09_LeapTells.j1 k x1 x9 (t277 != t278) x266000 x266001 x266002 x267000 x267001 x267002)))))) else (epactlaw09_LeapTells.j1 k x1 x9 true x266000 x266001 x266002 x267000 x267001 x267002)) else (epactlaw09_LeapTells.j1 k x1 x9 true x266000 x266001 x266002 x267000 x267001 x267002))))
def epactlaw09_LeapTells.j1 : Nat → Int → Bool → Bool → List (S26) → Bool → Int → Int → Int → Bool → Option (Bool)
  | 0, _, _, _, _, _, _, _, _, _ => none
  | k + 1, x1, x9, x63, x266000, x266001, x266002, x267000, x267001, x267002 => if x63 = true then (none) else ((epactref09_Right.f k x266000 x266001 x266002).bind fun t279 => (if t279 = true then ((epactref09_Copy.f x266000 x266001 x266002).bind fun bt280 => ((leap_Add.f k x266000 x266001 x266002 x267000 x267001 x267002).bind fun bt286 => ((epactref09_Add.f k x266000 x266001 x266002 x267000 x267001 x267002).bind fun bt293 => ((epactref09_Same.f k bt286.1 bt286.2.1 bt286.2.2.1 bt293.1 bt293.2.1 bt293.2.2.1).bind fun t300 => (if t300 = true then (epactlaw09_LeapTells.j2 k x1 x9 (bt286.2.2.2 != bt293.2.2.2) x266000 x266001 x266002 bt280.1 bt280.2.1 bt280.2.2 bt286.1 bt286.2.1 bt286.2.2.1) else (epactlaw09_LeapTells.j2 k x1 x9 true x266000 x266001 x266002 bt280.1 bt280.2.1 bt280.2.2 bt286.1 bt286.2.1 bt286.2.2.1)))))) else (some x9)))
def epactlaw09_LeapTells.j2 : Nat → Int → Bool → Bool → List (S26) → Bool → Int → List (S26) → Bool → Int → List (S26) → Bool → Int → Option (Bool)
  | 0, _, _, _, _, _, _, _, _, _, _, _, _ => none
  | k + 1, x1, x9, x90, x266000, x266001, x266002, x286000, x286001, x286002, x293000, x293001, x293002 => if x90 = true then (none) else (epactlaw09_LeapTells.l0 k x1 x9 0 x266000 x266001 x266002 x286000 x286001 x286002 x293000 x293001 x293002)
def epactlaw09_LeapTells.l0 : Nat → Int → Bool → Int → List (S26) → Bool → Int → List (S26) → Bool → Int → List (S26) → Bool → Int → Option (Bool)
  | 0, _, _, _, _, _, _, _, _, _, _, _, _ => none
  | k + 1, x1, x9, x19, x266000, x266001, x266002, x286000, x286001, x286002, x293000, x293001, x293002 => if x19 < (x293000.length : Int) then (if 0 ≤ x19 then (epactlaw09_LeapTells.l0 k x1 x9 (wrap64 (x19 + 1)) x266000 x266001 x266002 x286000 x286001 x286002 (x293000.set (x19 : Int).toNat (⟨77, (rd_T26 x293000 x19).f1, (rd_T26 x293000 x19).f2⟩ : S26)) x293001 x293002) else (none)) else (if x9 = true then ((leap_Find.f x266000 x266001 x266002 x1).bind fun t302 => ((epactref09_Find.f k x266000 x266001 x266002 x1).bind fun t303 => (if t302 = t303 then ((leap_Total.f k x266000 x266001 x266002 x1).bind fun t304 => ((epactref09_Total.f k x266000 x266001 x266002 x1).bind fun t305 => (if t304 = t305 then ((leap_Step.f x266000 x266001 x266002 x1).bind fun t306 => ((epactref09_Step.f k x266000 x266001 x266002 x1).bind fun t307 => (if t306 = t307 then ((leap_Length.f x266000 x266001 x266002 x1).bind fun t308 => ((epactref09_Length.f k x266000 x266001 x266002 x1).bind fun t309 => (if t308 = t309 then ((epactref09_Same.f k x266000 x266001 x266002 x286000 x286001 x286002).bind fun t310 => (some t310)) else (none)))) else (none)))) else (none)))) else (none)))) else (none))
end
def epactlaw09_LeapTells.f (k : Nat) (l0_0 : List (S26)) (a0_1 : Bool) (a0_2 : Int) (a1 : Int) (a2_0 : Int) (a2_1 : Int) (a2_2 : Bool) (l3_0 : List (S26)) (a3_1 : Bool) (a3_2 : Int) : Option (Bool) := (epactlaw09_small.f k).bind fun t268 => ((epactlaw09_Few.f l0_0 a0_1 a0_2).bind fun t269 => (if t269 = true then ((epactlaw09_Few.f l3_0 a3_1 a3_2).bind fun t270 => (epactlaw09_LeapTells.j0 k a1 t268 (!t270) l0_0 a0_1 a0_2 a2_0 a2_1 a2_2 l3_0 a3_1 a3_2)) else (epactlaw09_LeapTells.j0 k a1 t268 true l0_0 a0_1 a0_2 a2_0 a2_1 a2_2 l3_0 a3_1 a3_2)))
theorem epactlaw09_LeapTells.mono_l : ∀ k, (∀ y0 y1 y2 y3 y4 y5 y6 y7 y8 y9 y10 y11, LeO (epactlaw09_LeapTells.j0 k y0 y1 y2 y3 y4 y5 y6 y7 y8 y9 y10 y11) (epactlaw09_LeapTells.j0 (k + 1) y0 y1 y2 y3 y4 y5 y6 y7 y8 y9 y10 y11)) ∧ (∀ y0 y1 y2 y3 y4 y5 y6 y7 y8, LeO (epactlaw09_LeapTells.j1 k y0 y1 y2 y3 y4 y5 y6 y7 y8) (epactlaw09_LeapTells.j1 (k + 1) y0 y1 y2 y3 y4 y5 y6 y7 y8)) ∧ (∀ y0 y1 y2 y3 y4 y5 y6 y7 y8 y9 y10 y11, LeO (epactlaw09_LeapTells.j2 k y0 y1 y2 y3 y4 y5 y6 y7 y8 y9 y10 y11) (epactlaw09_LeapTells.j2 (k + 1) y0 y1 y2 y3 y4 y5 y6 y7 y8 y9 y10 y11)) ∧ (∀ y0 y1 y2 y3 y4 y5 y6 y7 y8 y9 y10 y11, LeO (epactlaw09_LeapTells.l0 k y0 y1 y2 y3 y4 y5 y6 y7 y8 y9 y10 y11) (epactlaw09_LeapTells.l0 (k + 1) y0 y1 y2 y3 y4 y5 y6 y7 y8 y9 y10 y11))
  | 0 => ⟨fun _ _ _ _ _ _ _ _ _ _ _ _ r h => by simp [epactlaw09_LeapTells.j0] at h, fun _ _ _ _ _ _ _ _ _ r h => by simp [epactlaw09_LeapTells.j1] at h, fun _ _ _ _ _ _ _ _ _ _ _ _ r h => by simp [epactlaw09_LeapTells.j2] at h, fun _ _ _ _ _ _ _ _ _ _ _ _ r h => by simp [epactlaw09_LeapTells.l0] at h⟩
  | k + 1 => by
    obtain ⟨ih0, ih1, ih2, ih3⟩ := epactlaw09_LeapTells.mono_l k
    refine ⟨?_, ?_, ?_, ?_⟩
    · intro y0 y1 y2 y3 y4 y5 y6 y7 y8 y9 y10 y11
      unfold epactlaw09_LeapTells.j0
      repeat' first
      | (with_reducible exact ih0 _ _ _ _ _ _ _ _ _ _ _ _)
      | (with_reducible exact ih1 _ _ _ _ _ _ _ _ _)
      | (with_reducible exact ih2 _ _ _ _ _ _ _ _ _ _ _ _)
      | (with_reducible exact ih3 _ _ _ _ _ _ _ _ _ _ _ _)
      | (with_reducible exact epactlaw09_small.mono _)
      | (with_reducible exact epactref09_Add.mono _ _ _ _ _ _ _)
      | (with_reducible exact epactref09_Check.mono _ _ _ _)
      | (with_reducible exact epactref09_Find.mono _ _ _ _ _)
      | (with_reducible exact epactref09_Length.mono _ _ _ _ _)
      | (with_reducible exact epactref09_Right.mono _ _ _ _)
      | (with_reducible exact epactref09_Same.mono _ _ _ _ _ _ _)
      | (with_reducible exact epactref09_Step.mono _ _ _ _ _)
      | (with_reducible exact epactref09_Total.mono _ _ _ _ _)
      | (with_reducible exact leap_Add.mono _ _ _ _ _ _ _)
      | (with_reducible exact leap_Check.mono _ _ _ _)
      | (with_reducible exact leap_Right.mono _ _ _ _)
      | (with_reducible exact leap_Same.mono _ _ _ _ _ _ _)
      | (with_reducible exact leap_Total.mono _ _ _ _ _)
      | (with_reducible exact LeO.refl _)
      | (with_reducible exact LeO.none _)
      | (with_reducible refine LeO.ite ?_ ?_)
      | (with_reducible refine LeO.bind ?_ (fun _ => ?_))
    · intro y0 y1 y2 y3 y4 y5 y6 y7 y8
      unfold epactlaw09_LeapTells.j1
      repeat' first
      | (with_reducible exact ih0 _ _ _ _ _ _ _ _ _ _ _ _)
      | (with_reducible exact ih1 _ _ _ _ _ _ _ _ _)
      | (with_reducible exact ih2 _ _ _ _ _ _ _ _ _ _ _ _)
      | (with_reducible exact ih3 _ _ _ _ _ _ _ _ _ _ _ _)
      | (with_reducible exact epactlaw09_small.mono _)
      | (with_reducible exact epactref09_Add.mono _ _ _ _ _ _ _)
      | (with_reducible exact epactref09_Check.mono _ _ _ _)
      | (with_reducible exact epactref09_Find.mono _ _ _ _ _)
      | (with_reducible exact epactref09_Length.mono _ _ _ _ _)
      | (with_reducible exact epactref09_Right.mono _ _ _ _)
      | (with_reducible exact epactref09_Same.mono _ _ _ _ _ _ _)
      | (with_reducible exact epactref09_Step.mono _ _ _ _ _)
      | (with_reducible exact epactref09_Total.mono _ _ _ _ _)
      | (with_reducible exact leap_Add.mono _ _ _ _ _ _ _)
      | (with_reducible exact leap_Check.mono _ _ _ _)
      | (with_reducible exact leap_Right.mono _ _ _ _)
      | (with_reducible exact leap_Same.mono _ _ _ _ _ _ _)
      | (with_reducible exact leap_Total.mono _ _ _ _ _)
      | (with_reducible exact LeO.refl _)
      | (with_reducible exact LeO.none _)
      | (with_reducible refine LeO.ite ?_ ?_)
      | (with_reducible refine LeO.bind ?_ (fun _ => ?_))
    · intro y0 y1 y2 y3 y4 y5 y6 y7 y8 y9 y10 y11
      unfold epactlaw09_LeapTells.j2
      repeat' first
      | (with_reducible exact ih0 _ _ _ _ _ _ _ _ _ _ _ _)
      | (with_reducible exact ih1 _ _ _ _ _ _ _ _ _)
      | (with_reducible exact ih2 _ _ _ _ _ _ _ _ _ _ _ _)
      | (with_reducible exact ih3 _ _ _ _ _ _ _ _ _ _ _ _)
      | (with_reducible exact epactlaw09_small.mono _)
      | (with_reducible exact epactref09_Add.mono _ _ _ _ _ _ _)
      | (with_reducible exact epactref09_Check.mono _ _ _ _)
      | (with_reducible exact epactref09_Find.mono _ _ _ _ _)
      | (with_reducible exact epactref09_Length.mono _ _ _ _ _)
      | (with_reducible exact epactref09_Right.mono _ _ _ _)
      | (with_reducible exact epactref09_Same.mono _ _ _ _ _ _ _)
      | (with_reducible exact epactref09_Step.mono _ _ _ _ _)
      | (with_reducible exact epactref09_Total.mono _ _ _ _ _)
      | (with_reducible exact leap_Add.mono _ _ _ _ _ _ _)
      | (with_reducible exact leap_Check.mono _ _ _ _)
      | (with_reducible exact leap_Right.mono _ _ _ _)
      | (with_reducible exact leap_Same.mono _ _ _ _ _ _ _)
      | (with_reducible exact leap_Total.mono _ _ _ _ _)
      | (with_reducible exact LeO.refl _)
      | (with_reducible exact LeO.none _)
      | (with_reducible refine LeO.ite ?_ ?_)
      | (with_reducible refine LeO.bind ?_ (fun _ => ?_))
    · intro y0 y1 y2 y3 y4 y5 y6 y7 y8 y9 y10 y11
      unfold epactlaw09_LeapTells.l0
      repeat' first
      | (with_reducible exact ih0 _ _ _ _ _ _ _ _ _ _ _ _)
      | (with_reducible exact ih1 _ _ _ _ _ _ _ _ _)
      | (with_reducible exact ih2 _ _ _ _ _ _ _ _ _ _ _ _)
      | (with_reducible exact ih3 _ _ _ _ _ _ _ _ _ _ _ _)
      | (with_reducible exact epactlaw09_small.mono _)
      | (with_reducible exact epactref09_Add.mono _ _ _ _ _ _ _)
      | (with_reducible exact epactref09_Check.mono _ _ _ _)
      | (with_reducible exact epactref09_Find.mono _ _ _ _ _)
      | (with_reducible exact epactref09_Length.mono _ _ _ _ _)
      | (with_reducible exact epactref09_Right.mono _ _ _ _)
      | (with_reducible exact epactref09_Same.mono _ _ _ _ _ _ _)
      | (with_reducible exact epactref09_Step.mono _ _ _ _ _)
      | (with_reducible exact epactref09_Total.mono _ _ _ _ _)
      | (with_reducible exact leap_Add.mono _ _ _ _ _ _ _)
      | (with_reducible exact leap_Check.mono _ _ _ _)
      | (with_reducible exact leap_Right.mono _ _ _ _)
      | (with_reducible exact leap_Same.mono _ _ _ _ _ _ _)
      | (with_reducible exact leap_Total.mono _ _ _ _ _)
      | (with_reducible exact LeO.refl _)
      | (with_reducible exact LeO.none _)
      | (with_reducible refine LeO.ite ?_ ?_)
      | (with_reducible refine LeO.bind ?_ (fun _ => ?_))
theorem epactlaw09_LeapTells.mono : ∀ a0 a1 a2 a3 a4 a5 a6 a7 a8 a9 k, LeO (epactlaw09_LeapTells.f k a0 a1 a2 a3 a4 a5 a6 a7 a8 a9) (epactlaw09_LeapTells.f (k + 1) a0 a1 a2 a3 a4 a5 a6 a7 a8 a9) := by
  intro a0 a1 a2 a3 a4 a5 a6 a7 a8 a9 k
  obtain ⟨ih0, ih1, ih2, ih3⟩ := epactlaw09_LeapTells.mono_l k
  unfold epactlaw09_LeapTells.f
  repeat' first
      | (with_reducible exact ih0 _ _ _ _ _ _ _ _ _ _ _ _)
      | (with_reducible exact ih1 _ _ _ _ _ _ _ _ _)
      | (with_reducible exact ih2 _ _ _ _ _ _ _ _ _ _ _ _)
      | (with_reducible exact ih3 _ _ _ _ _ _ _ _ _ _ _ _)
      | (with_reducible exact epactlaw09_small.mono _)
      | (with_reducible exact epactref09_Add.mono _ _ _ _ _ _ _)
      | (with_reducible exact epactref09_Check.mono _ _ _ _)
      | (with_reducible exact epactref09_Find.mono _ _ _ _ _)
      | (with_reducible exact epactref09_Length.mono _ _ _ _ _)
      | (with_reducible exact epactref09_Right.mono _ _ _ _)
      | (with_reducible exact epactref09_Same.mono _ _ _ _ _ _ _)
      | (with_reducible exact epactref09_Step.mono _ _ _ _ _)
      | (with_reducible exact epactref09_Total.mono _ _ _ _ _)
      | (with_reducible exact leap_Add.mono _ _ _ _ _ _ _)
      | (with_reducible exact leap_Check.mono _ _ _ _)
      | (with_reducible exact leap_Right.mono _ _ _ _)
      | (with_reducible exact leap_Same.mono _ _ _ _ _ _ _)
      | (with_reducible exact leap_Total.mono _ _ _ _ _)
      | (with_reducible exact LeO.refl _)
      | (with_reducible exact LeO.none _)
      | (with_reducible refine LeO.ite ?_ ?_)
      | (with_reducible refine LeO.bind ?_ (fun _ => ?_))
def epactlaw09_LeapTells.T6 : Bool × List (List Nat × List Nat) := (true, [([], []), ([], []), ([0, 1], [0, 1]), ([2], [2]), ([3], [3]), ([3], [3]), ([4, 5, 3], [3, 4, 5]), ([3, 6], [3, 6]), ([7, 3], [7]), ([8], [8]), ([9, 8, 8], [8, 9]), ([8], [8]), ([11, 10, 8], [8, 11]), ([10, 12, 8], [8, 10, 12]), ([8, 13], [8, 13]), ([14, 12], [14]), ([15], [15]), ([15], [15]), ([16, 17, 15, 15], [15, 16, 17]), ([15], [15]), ([15], [15]), ([19, 20, 18, 15], [15, 19, 20]), ([18, 21, 15], [15, 18, 21]), ([15, 22], [15, 22])])
def epactlaw09_LeapTells.B6 : List Nat := [0, 0, 3, 7, 15, 15, 63, 127, 255, 511, 1023, 511, 4095, 8191, 16383, 32767, 65535, 65535, 262143, 65535, 65535, 2097151, 4194303, 8388607]
theorem epactlaw09_LeapTells.tab6 : rtab .any (opsOf Try.f3 6) = epactlaw09_LeapTells.T6 := by kernel_rfl
theorem epactlaw09_LeapTells.bits6 : waitsOk epactlaw09_LeapTells.T6.2 epactlaw09_LeapTells.B6 = true := by kernel_rfl
def epactlaw09_LeapTells.T19 : Bool × List (List Nat × List Nat) := (true, [([], []), ([0], [0]), ([1], [1]), ([1], [1]), ([2, 3, 1, 1], [1, 2, 3]), ([1], [1]), ([1], [1]), ([5, 6, 4, 1], [1, 5, 6]), ([4, 7, 1], [1, 4, 7]), ([1, 8], [1, 8]), ([9, 7], [9]), ([10], [10]), ([10], [10]), ([11, 12, 10, 10], [10, 11, 12]), ([10], [10]), ([10], [10]), ([14, 15, 13, 10], [10, 14, 15]), ([13, 16, 10], [10, 13, 16]), ([10, 17], [10, 17]), ([18, 16], [18]), ([19], [19]), ([19], [19]), ([20, 21, 19, 19], [19, 20, 21]), ([19], [19]), ([19], [19]), ([23, 24, 22, 19], [19, 23, 24]), ([22, 25, 19], [19, 22, 25]), ([19, 26], [19, 26]), ([27, 25], [27]), ([28], [28]), ([28], [28]), ([29, 30, 28, 28], [28, 29, 30]), ([28], [28]), ([28], [28]), ([32, 33, 31, 28], [28, 32, 33]), ([31, 34, 28], [28, 31, 34]), ([28, 35], [28, 35]), ([36, 34], [36]), ([37], [37]), ([37], [37]), ([38, 39, 37, 37], [37, 38, 39]), ([37, 40], [37, 40]), ([41, 40, 0, 1, 2, 3, 4, 5, 6, 7, 8, 9, 10, 11, 12, 13, 14, 15, 16, 17, 18, 19, 20, 21, 22, 23, 24, 25, 26, 27, 28, 29, 30, 31, 32, 33, 34, 35, 36, 37, 38, 39, 40, 41], [41])])
def epactlaw09_LeapTells.B19 : List Nat := [0, 1, 3, 3, 15, 3, 3, 127, 255, 511, 1023, 2047, 2047, 8191, 2047, 2047, 65535, 131071, 262143, 524287, 1048575, 1048575, 4194303, 1048575, 1048575, 33554431, 67108863, 134217727, 268435455, 536870911, 536870911, 2147483647, 536870911, 536870911, 17179869183, 34359738367, 68719476735, 137438953471, 274877906943, 274877906943, 1099511627775, 2199023255551, 4398046511103]
theorem epactlaw09_LeapTells.tab19 : rtab .any (opsOf Try.f3 19) = epactlaw09_LeapTells.T19 := by kernel_rfl
theorem epactlaw09_LeapTells.bits19 : waitsOk epactlaw09_LeapTells.T19.2 epactlaw09_LeapTells.B19 = true := by kernel_rfl
set_option maxHeartbeats 8000000 in
set_option maxRecDepth 100000 in
theorem epactlaw09_LeapTells.calls (k : Nat) (A0_0 : Option Addr) (c0_0 : Nat) (l0_0 : List (S26)) (a0_1 : Bool) (a0_2 : Int) (a1 : Int) (a2_0 : Int) (a2_1 : Int) (a2_2 : Bool) (A3_0 : Option Addr) (c3_0 : Nat) (l3_0 : List (S26)) (a3_1 : Bool) (a3_2 : Int) (r : Bool) (w : World) (hr0_0 : Kd.C k26 w A0_0 l0_0.length l0_0) (hc0_0 : l0_0.length ≤ c0_0) (hr3_0 : Kd.C k26 w A3_0 l3_0.length l3_0) (hc3_0 : l3_0.length ≤ c3_0) (h : epactlaw09_LeapTells.f k l0_0 a0_1 a0_2 a1 a2_0 a2_1 a2_2 l3_0 a3_1 a3_2 = some r) :
    Calls Try.prog 3 #[.agg #[.slice A0_0 l0_0.length c0_0, .bool a0_1, .int .i64 a0_2], .int .i64 a1, .agg #[.int .i64 a2_0, .int .i64 a2_1, .bool a2_2], .agg #[.slice A3_0 l3_0.length c3_0, .bool a3_1, .int .i64 a3_2]] w fun e w' => e = .returned (.bool r) ∧ Below w.heap.size w w' := by
  have hu24 := Try.underlying24
  have hu26 := Try.underlying26
  have HR0_0 := Aside0.mk hr0_0
  have HC0_0 := Aside0.mk hc0_0
  clear hr0_0 hc0_0
  have HR3_0 := Aside0.mk hr3_0
  have HC3_0 := Aside0.mk hc3_0
  clear hr3_0 hc3_0
  have HB := Aside0.mk (Below.refl w.heap.size w)
  have H : ((epactlaw09_small.f k).bind fun t268 => ((epactlaw09_Few.f l0_0 a0_1 a0_2).bind fun t269 => (if t269 = true then ((epactlaw09_Few.f l3_0 a3_1 a3_2).bind fun t270 => (epactlaw09_LeapTells.j0 k a1 t268 (!t270) l0_0 a0_1 a0_2 a2_0 a2_1 a2_2 l3_0 a3_1 a3_2)) else (epactlaw09_LeapTells.j0 k a1 t268 true l0_0 a0_1 a0_2 a2_0 a2_1 a2_2 l3_0 a3_1 a3_2)))) = some r := h
  clear h
  replace H := Option.bind_eq_some_iff.mp H
  obtain ⟨t268, A50, H⟩ := H
  try dsimp only at H
  have A5 := Aside0.mk A50
  clear A50
  have HC6 := Aside0.mk H
  clear H
  go_enter Try.func3, Try.ntmps3
  go_upto_region 2 with (first | (refine bx 4 #[.slice A0_0 l0_0.length c0_0, .bool a0_1, .int .i64 a0_2] 24 ?_; intro gb265 hg w7 hbox hb; have n1_ := Aside0.mk (hbox); have GW265 := gw HB hg; have GE265 := gw HB hg; replace HB := bs HB hb; have BK265 := n1_; clear n1_; clear hb hbox hg) | (refine bx 6 #[.int .i64 a2_0, .int .i64 a2_1, .bool a2_2] 26 ?_; intro gb266 hg w8 hbox hb; have n2_ := Aside0.mk (hbox); have GW266 := gw HB hg; have GE266 := gw HB hg; have NB265_266 := nl BK265 hg; have NB266_265 := nr BK265 hg; replace BK265 := kb BK265 hb; replace HB := bs HB hb; have BK266 := n2_; clear n2_; clear hb hbox hg) | (refine bx 7 #[.slice A3_0 l3_0.length c3_0, .bool a3_1, .int .i64 a3_2] 24 ?_; intro gb267 hg w9 hbox hb; have n3_ := Aside0.mk (hbox); have GW267 := gw HB hg; have GE267 := gw HB hg; have NB265_267 := nl BK265 hg; have NB267_265 := nr BK265 hg; have NB266_267 := nl BK266 hg; have NB267_266 := nr BK266 hg; replace BK265 := kb BK265 hb; replace BK266 := kb BK266 hb; replace HB := bs HB hb; have BK267 := n3_; clear n3_; clear hb hbox hg) | (refine gL (some 20) Try.func9 #[] ?_; (with_reducible refine (epactlaw09_small.calls k  t268 _ A5.out).mono ?_); rintro e w10 ⟨rfl, hb⟩; refine ⟨_, rfl, ?_⟩; replace BK265 := kb BK265 hb; replace BK266 := kb BK266 hb; replace BK267 := kb BK267 hb; replace HB := bs HB hb; (try clear hb); (try clear hb2); (try clear hk); (try clear hi)))
  (try simp only [Act.put, List.setIfInBounds_toArray, List.set_cons_zero, List.set_cons_succ])
  go_cut [28] (fun v28 wc => ∃ (kq : Nat) (x28_5 : Bool), v28 = .bool x28_5 ∧ Aside0 (epactlaw09_LeapTells.j0 kq a1 t268 x28_5 l0_0 a0_1 a0_2 a2_0 a2_1 a2_2 l3_0 a3_1 a3_2 = some r) ∧ Aside0 (kq ≤ k) ∧ Aside0 (wc.heap[gb265]? = some (.cells #[(.slice A0_0 l0_0.length c0_0), .bool a0_1, .int .i64 a0_2] 24 (0, 0))) ∧ Aside0 (wc.heap[gb266]? = some (.cells #[.int .i64 a2_0, .int .i64 a2_1, .bool a2_2] 26 (0, 0))) ∧ Aside0 (wc.heap[gb267]? = some (.cells #[(.slice A3_0 l3_0.length c3_0), .bool a3_1, .int .i64 a3_2] 24 (0, 0))) ∧ Aside0 (Below w.heap.size w wc))
  case first =>
    have H := HC6.out
    clear HC6
    replace H := Option.bind_eq_some_iff.mp H
    obtain ⟨t269, A110, H⟩ := H
    try dsimp only at H
    have A11 := Aside0.mk A110
    clear A110
    by_cases c12 : t269 = true
    · subst c12
      rw [if_pos rfl] at H
      replace H := Option.bind_eq_some_iff.mp H
      obtain ⟨t270, A130, H⟩ := H
      try dsimp only at H
      have A13 := Aside0.mk A130
      clear A130
      have H' := Aside0.mk H
      clear H
      have hnb14 := NB265_266.out
      have hnc14 := NB266_265.out
      have hnb15 := NB265_267.out
      have hnc15 := NB267_265.out
      have hcz16_0 := bc BK265 0
      have hcz16_1 := bc BK265 1
      have hcz16_2 := bc BK265 2
      have hfz16_0 := bf BK265 0
      have hfz16_1 := bf BK265 1
      have hfz16_2 := bf BK265 2
      go_wp2_with (first | (refine gL (some 22) Try.func10 #[.agg #[.slice A0_0 l0_0.length c0_0, .bool a0_1, .int .i64 a0_2]] ?_; (with_reducible refine (epactlaw09_Few.calls _ _ l0_0 a0_1 a0_2 true _ ?side1 ?side2 A11.out).mono ?_); (case side1 => exact cb HR0_0 HB); (case side2 => exact HC0_0.out); rintro e w17 ⟨rfl, hb⟩; refine ⟨_, rfl, ?_⟩; replace BK265 := kb BK265 hb; replace BK266 := kb BK266 hb; replace BK267 := kb BK267 hb; replace HB := bs HB hb; (try clear hb); (try clear hb2); (try clear hk); (try clear hi); have hnb18 := NB267_266.out; have hnc18 := NB266_267.out; have hcz19_0 := bc BK267 0; have hcz19_1 := bc BK267 1; have hcz19_2 := bc BK267 2; have hfz19_0 := bf BK267 0; have hfz19_1 := bf BK267 1; have hfz19_2 := bf BK267 2) | (go_at_call 10; (with_reducible refine (epactlaw09_Few.calls _ _ l3_0 a3_1 a3_2 t270 _ ?side1 ?side2 A13.out).mono ?_); (case side1 => exact cb HR3_0 HB); (case side2 => exact HC3_0.out); rintro e w20 ⟨rfl, hb⟩; replace BK265 := kb BK265 hb; replace BK266 := kb BK266 hb; replace BK267 := kb BK267 hb; replace HB := bs HB hb; (try clear hb); (try clear hb2); (try clear hk); (try clear hi)))
      go_meet
      case rel => exact ⟨_, (!t270), (by first | rfl | (simp; done) | (simp [*]; done)), H', ⟨by first | omega | exact Nat.le_refl _⟩, ka BK265, ka BK266, ka BK267, ba HB⟩
    · replace c12 := Bool.eq_false_iff.mpr c12
      subst c12
      rw [if_neg (show ¬ (false = true) by decide)] at H
      have H' := Aside0.mk H
      clear H
      have hnb21 := NB265_266.out
      have hnc21 := NB266_265.out
      have hnb22 := NB265_267.out
      have hnc22 := NB267_265.out
      have hcz23_0 := bc BK265 0
      have hcz23_1 := bc BK265 1
      have hcz23_2 := bc BK265 2
      have hfz23_0 := bf BK265 0
      have hfz23_1 := bf BK265 1
      have hfz23_2 := bf BK265 2
      go_wp2_with (first | (refine gL (some 22) Try.func10 #[.agg #[.slice A0_0 l0_0.length c0_0, .bool a0_1, .int .i64 a0_2]] ?_; (with_reducible refine (epactlaw09_Few.calls _ _ l0_0 a0_1 a0_2 false _ ?side1 ?side2 A11.out).mono ?_); (case side1 => exact cb HR0_0 HB); (case side2 => exact HC0_0.out); rintro e w24 ⟨rfl, hb⟩; refine ⟨_, rfl, ?_⟩; replace BK265 := kb BK265 hb; replace BK266 := kb BK266 hb; replace BK267 := kb BK267 hb; replace HB := bs HB hb; (try clear hb); (try clear hb2); (try clear hk); (try clear hi)))
      go_meet
      case rel => exact ⟨_, (true), (by first | rfl | (simp; done) | (simp [*]; done)), H', ⟨by first | omega | exact Nat.le_refl _⟩, ka BK265, ka BK266, ka BK267, ba HB⟩
  case rest =>
    clear HC6
    try clear c1
    try clear c2
    try clear p2
    try clear c3
    try clear c9
    try clear c10
    try clear c12
    try clear c14
    try clear c15
    try clear c18
    try clear c21
    try clear c22
    try clear hcz16_0
    try clear hcz16_1
    try clear hcz16_2
    try clear hcz19_0
    try clear hcz19_1
    try clear hcz19_2
    try clear hcz23_0
    try clear hcz23_1
    try clear hcz23_2
    try clear hfz16_0
    try clear hfz16_1
    try clear hfz16_2
    try clear hfz19_0
    try clear hfz19_1
    try clear hfz19_2
    try clear hfz23_0
    try clear hfz23_1
    try clear hfz23_2
    obtain ⟨kq, x28_5, rfl, HA, HJ5, BK265, BK266, BK267, HB⟩ := hcut
    cases kq with
    | zero => exact absurd HA.out (by simp [epactlaw09_LeapTells.j0])
    | succ kj5 =>
      have H := HA.out
      clear HA
      simp only [epactlaw09_LeapTells.j0] at H
      by_cases c25 : x28_5 = true
      · subst c25
        rw [if_pos rfl] at H
        obtain rfl := Option.some.inj H
        go_wp2
        go_ret
        exact fi HB
      · replace c25 := Bool.eq_false_iff.mpr c25
        subst c25
        rw [if_neg (show ¬ (false = true) by decide)] at H
        replace H := Option.bind_eq_some_iff.mp H
        obtain ⟨⟨t271, t272⟩, A260, H⟩ := H
        try dsimp only at H
        have A26 := Aside0.mk A260
        clear A260
        replace H := Option.bind_eq_some_iff.mp H
        obtain ⟨⟨t273, t274⟩, A270, H⟩ := H
        try dsimp only at H
        have A27 := Aside0.mk A270
        clear A270
        have HC28 := Aside0.mk H
        clear H
        have hnb29 := NB265_266.out
        have hnc29 := NB266_265.out
        have hnb30 := NB265_267.out
        have hnc30 := NB267_265.out
        have hcz31_0 := bc BK265 0
        have hcz31_1 := bc BK265 1
        have hcz31_2 := bc BK265 2
        have hfz31_0 := bf BK265 0
        have hfz31_1 := bf BK265 1
        have hfz31_2 := bf BK265 2
        go_upto_region 6 with (first | (refine gL (some 32) Try.func11 #[.agg #[.slice A0_0 l0_0.length c0_0, .bool a0_1, .int .i64 a0_2]] ?_; (with_reducible refine (leap_Check.calls kj5 _ _ l0_0 a0_1 a0_2 t271 t272 _ ?side1 ?side2 A26.out).mono ?_); (case side1 => exact cb HR0_0 HB); (case side2 => exact HC0_0.out); rintro e w32 ⟨rfl, hb⟩; refine ⟨_, rfl, ?_⟩; replace BK265 := kb BK265 hb; replace BK266 := kb BK266 hb; replace BK267 := kb BK267 hb; replace HB := bs HB hb; (try clear hb); (try clear hb2); (try clear hk); (try clear hi); have hcz33_0 := bc BK265 0; have hcz33_1 := bc BK265 1; have hcz33_2 := bc BK265 2; have hfz33_0 := bf BK265 0; have hfz33_1 := bf BK265 1; have hfz33_2 := bf BK265 2) | (refine gL (some 37) Try.func12 #[.agg #[.slice A0_0 l0_0.length c0_0, .bool a0_1, .int .i64 a0_2]] ?_; (with_reducible refine (epactref09_Check.calls kj5 _ _ l0_0 a0_1 a0_2 t273 t274 _ ?side1 ?side2 A27.out).mono ?_); (case side1 => exact cb HR0_0 HB); (case side2 => exact HC0_0.out); rintro e w34 ⟨rfl, hb⟩; refine ⟨_, rfl, ?_⟩; replace BK265 := kb BK265 hb; replace BK266 := kb BK266 hb; replace BK267 := kb BK267 hb; replace HB := bs HB hb; (try clear hb); (try clear hb2); (try clear hk); (try clear hi)))
        (try simp only [Act.put, List.setIfInBounds_toArray, List.set_cons_zero, List.set_cons_succ])
        go_cut [63] (fun v63 wc => ∃ (kq : Nat) (x63_27 : Bool), v63 = .bool x63_27 ∧ Aside0 (epactlaw09_LeapTells.j1 kq a1 t268 x63_27 l0_0 a0_1 a0_2 a2_0 a2_1 a2_2 = some r) ∧ Aside0 (kq ≤ kj5) ∧ Aside0 (wc.heap[gb265]? = some (.cells #[(.slice A0_0 l0_0.length c0_0), .bool a0_1, .int .i64 a0_2] 24 (0, 0))) ∧ Aside0 (wc.heap[gb266]? = some (.cells #[.int .i64 a2_0, .int .i64 a2_1, .bool a2_2] 26 (0, 0))) ∧ Aside0 (wc.heap[gb267]? = some (.cells #[(.slice A3_0 l3_0.length c3_0), .bool a3_1, .int .i64 a3_2] 24 (0, 0))) ∧ Aside0 (Below w.heap.size w wc))
        case first =>
          have H := HC28.out
          clear HC28
          by_cases c35 : t271 = t273
          · rw [if_pos c35] at H
            have c35b0 : (t271 == t273) = true := beq_iff_eq.mpr c35
            have c35b1 : (t271 != t273) = false := bne_eq_false_iff_eq.mpr c35
            clear c35
            (first | rw [c35b0] | (simp only [i64_w, i32_w]; rw [c35b0]) | skip)
            by_cases c36 : t272 = t274
            · rw [if_pos c36] at H
              have c36b0 : (t272 == t274) = true := beq_iff_eq.mpr c36
              have c36b1 : (t272 != t274) = false := bne_eq_false_iff_eq.mpr c36
              clear c36
              replace H := Option.bind_eq_some_iff.mp H
              obtain ⟨t275, A370, H⟩ := H
              try dsimp only at H
              have A37 := Aside0.mk A370
              clear A370
              replace H := Option.bind_eq_some_iff.mp H
              obtain ⟨t276, A380, H⟩ := H
              try dsimp only at H
              have A38 := Aside0.mk A380
              clear A380
              by_cases c39 : (t275 != t276) = true
              · rw [if_pos c39] at H
                have c39b0 : (t275 != t276) = true := c39
                (try (have c39b1 : decide (t275 = t276) = false := by first | (simp; done) | (simp at c39; done) | simpa using c39))
                (try (have c39b2 : (t275 == t276) = false := by first | (simp; done) | (simp at c39; done) | simpa using c39))
                (try (have c39b3 : ¬ (t275 = t276) := by first | (simp; done) | (simp at c39; done) | simpa using c39))
                clear c39
                have H' := Aside0.mk H
                clear H
                try go_wp2
                have n0_ := Aside0.mk (blk_drew BK265.out)
                have n1_ := Aside0.mk (blk_drew BK266.out)
                have n2_ := Aside0.mk (blk_drew BK267.out)
                have n3_ := Aside0.mk (below_drew1 HB.out)
                clear BK265
                clear BK266
                clear BK267
                clear HB
                have BK265 := n0_
                have BK266 := n1_
                have BK267 := n2_
                have HB := n3_
                clear n0_ n1_ n2_ n3_
                refine start_ (n := 24) (S := fun w' => w'.cell? ⟨gb265, 0, none⟩ = some (.slice A0_0 l0_0.length c0_0) ∧ w'.cell? ⟨gb265, 1, none⟩ = some (.bool a0_1) ∧ w'.cell? ⟨gb265, 2, none⟩ = some (.int .i64 a0_2)) (ds := []) #[false, false, false, false, false, false, false, false, false, false, false, false, false, false, false, false, false, false, false, false, false, false, false, false] (by kernel_rfl) rfl rfl ⟨(blk_cell BK265.out 0).trans rfl, (blk_cell BK265.out 1).trans rfl, (blk_cell BK265.out 2).trans rfl⟩ (fun hHeld => ?_); refine with_tabW epactlaw09_LeapTells.tab6 epactlaw09_LeapTells.bits6 (fun HT_ HW_ => ?_)
                generalize w34.drew = w40 at BK265 BK266 BK267 HB hHeld ⊢
                refine pu HT_ 0 (some 40) #[true, false, false, false, false, false, false, false, false, false, false, false, false, false, false, false, false, false, false, false, false, false, false, false] ?_
                refine pu HT_ 1 (some 41) #[true, true, false, false, false, false, false, false, false, false, false, false, false, false, false, false, false, false, false, false, false, false, false, false] ?_
                refine pu HT_ 2 (some 42) #[true, true, true, false, false, false, false, false, false, false, false, false, false, false, false, false, false, false, false, false, false, false, false, false] ?_
                refine pu HT_ 3 (some 43) #[true, true, true, true, false, false, false, false, false, false, false, false, false, false, false, false, false, false, false, false, false, false, false, false] ?_
                refine pu HT_ 4 (some 44) #[true, true, true, true, true, false, false, false, false, false, false, false, false, false, false, false, false, false, false, false, false, false, false, false] ?_
                refine pu HT_ 5 (some 45) #[true, true, true, true, true, true, false, false, false, false, false, false, false, false, false, false, false, false, false, false, false, false, false, false] ?_
                refine pu HT_ 6 (some 46) #[true, true, true, true, true, true, true, false, false, false, false, false, false, false, false, false, false, false, false, false, false, false, false, false] ?_
                refine pu HT_ 7 (some 47) #[true, true, true, true, true, true, true, true, false, false, false, false, false, false, false, false, false, false, false, false, false, false, false, false] ?_
                refine pu HT_ 8 (some 48) #[true, true, true, true, true, true, true, true, true, false, false, false, false, false, false, false, false, false, false, false, false, false, false, false] ?_
                refine take_ (i := 9) (N := some 49) (v := ?_) (a' := ?_) #[true, true, true, true, true, true, true, true, true, true, false, false, false, false, false, false, false, false, false, false, false, false, false, false] rfl rfl (take_ofW HT_.out HW_.out (by kernel_rfl)) (fun _ _ _ h => h) (Or.inl ⟨by rfl, ?_⟩) hHeld ?_ ?_
                rotate_left
                · rintro w' ⟨s0, s1, s2⟩
                  go_simp
                  with_reducible rfl
                rotate_left
                · simp only [Act.put, List.setIfInBounds_toArray, List.set_cons_zero, List.set_cons_succ, i64_w, i32_w]
                  rfl
                refine take_ (i := 11) (N := some 51) (v := ?_) (a' := ?_) #[true, true, true, true, true, true, true, true, true, true, false, true, false, false, false, false, false, false, false, false, false, false, false, false] rfl rfl (take_ofW HT_.out HW_.out (by kernel_rfl)) (fun _ _ _ h => h) (Or.inl ⟨by rfl, ?_⟩) hHeld ?_ ?_
                rotate_left
                · rintro w' ⟨s0, s1, s2⟩
                  go_simp
                  with_reducible rfl
                rotate_left
                · simp only [Act.put, List.setIfInBounds_toArray, List.set_cons_zero, List.set_cons_succ, i64_w, i32_w]
                  rfl
                refine one_ (i := 10) (N := some 50) #[true, true, true, true, true, true, true, true, true, true, true, true, false, false, false, false, false, false, false, false, false, false, false, false] rfl rfl (one_of HT_.out (by kernel_rfl)) (by decide) (fun K hK => ?_)
                refine goes_ Try.func13 (by kernel_rfl) rfl #[.agg #[.slice A0_0 l0_0.length c0_0, .bool a0_1, .int .i64 a0_2]] (by rfl) rfl rfl (by (try simp only [List.map_toArray, List.map_cons, List.map_nil]); first | done | rfl | (simp only [List.length_drop, List.length_take]; rfl)) ?_
                with_reducible refine (leap_Right.calls kj5 _ _ l0_0 a0_1 a0_2 t275 _ ?side1 ?side2 A37.out).mono ?_
                (case side1 => exact cb HR0_0 HB)
                (case side2 => exact HC0_0.out)
                rintro e w41 ⟨rfl, hb⟩
                refine ⟨_, rfl, ?_⟩
                have n0_ := kb BK265 hb
                have n1_ := kb BK266 hb
                have n2_ := kb BK267 hb
                have n3_ := bs HB hb
                clear BK265
                clear BK266
                clear BK267
                clear HB
                have BK265 := n0_
                have BK266 := n1_
                have BK267 := n2_
                have HB := n3_
                clear n0_ n1_ n2_ n3_
                (try clear hb)
                (try clear hb2)
                (try clear hk)
                (try clear hi)
                refine hK.out _ _ ⟨(blk_cell BK265.out 0).trans rfl, (blk_cell BK265.out 1).trans rfl, (blk_cell BK265.out 2).trans rfl⟩ (fun hHeld => ?_)
                clear hK K
                refine norm_ (a' := ?_) ?_ ?_
                rotate_left
                · show Act.put _ (some 50) _ = _
                  simp only [Act.put, List.setIfInBounds_toArray, List.set_cons_zero, List.set_cons_succ, i64_w, i32_w]
                  rfl
                refine one_ (i := 12) (N := some 52) #[true, true, true, true, true, true, true, true, true, true, true, true, true, false, false, false, false, false, false, false, false, false, false, false] rfl rfl (one_of HT_.out (by kernel_rfl)) (by decide) (fun K hK => ?_)
                refine goes_ Try.func14 (by kernel_rfl) rfl #[.agg #[.slice A0_0 l0_0.length c0_0, .bool a0_1, .int .i64 a0_2]] (by rfl) rfl rfl (by (try simp only [List.map_toArray, List.map_cons, List.map_nil]); first | done | rfl | (simp only [List.length_drop, List.length_take]; rfl)) ?_
                with_reducible refine (epactref09_Right.calls kj5 _ _ l0_0 a0_1 a0_2 t276 _ ?side1 ?side2 A38.out).mono ?_
                (case side1 => exact cb HR0_0 HB)
                (case side2 => exact HC0_0.out)
                rintro e w42 ⟨rfl, hb⟩
                refine ⟨_, rfl, ?_⟩
                have n0_ := kb BK265 hb
                have n1_ := kb BK266 hb
                have n2_ := kb BK267 hb
                have n3_ := bs HB hb
                clear BK265
                clear BK266
                clear BK267
                clear HB
                have BK265 := n0_
                have BK266 := n1_
                have BK267 := n2_
                have HB := n3_
                clear n0_ n1_ n2_ n3_
                (try clear hb)
                (try clear hb2)
                (try clear hk)
                (try clear hi)
                refine hK.out _ _ ⟨(blk_cell BK265.out 0).trans rfl, (blk_cell BK265.out 1).trans rfl, (blk_cell BK265.out 2).trans rfl⟩ (fun hHeld => ?_)
                clear hK K
                refine norm_ (a' := ?_) ?_ ?_
                rotate_left
                · show Act.put _ (some 52) _ = _
                  simp only [Act.put, List.setIfInBounds_toArray, List.set_cons_zero, List.set_cons_succ, i64_w, i32_w]
                  rfl
                refine pu HT_ 13 (some 53) #[true, true, true, true, true, true, true, true, true, true, true, true, true, true, false, false, false, false, false, false, false, false, false, false] ?_
                refine pu HT_ 14 (some 54) #[true, true, true, true, true, true, true, true, true, true, true, true, true, true, true, false, false, false, false, false, false, false, false, false] ?_
                refine pu HT_ 15 (some 55) #[true, true, true, true, true, true, true, true, true, true, true, true, true, true, true, true, false, false, false, false, false, false, false, false] ?_
                refine pure_ (i := 16) (N := some 56) (v := undef) (a' := ?_) #[true, true, true, true, true, true, true, true, true, true, true, true, true, true, true, true, true, false, false, false, false, false, false, false] rfl rfl (any_of HT_.out (by kernel_rfl)) (fun _ _ _ h => h) (Or.inr ⟨by rfl, rfl⟩) ?_ ?_
                rotate_left
                · simp only [Act.put, List.setIfInBounds_toArray, List.set_cons_zero, List.set_cons_succ, i64_w, i32_w]
                  rfl
                refine pure_ (i := 17) (N := some 57) (v := undef) (a' := ?_) #[true, true, true, true, true, true, true, true, true, true, true, true, true, true, true, true, true, true, false, false, false, false, false, false] rfl rfl (any_of HT_.out (by kernel_rfl)) (fun _ _ _ h => h) (Or.inr ⟨by rfl, rfl⟩) ?_ ?_
                rotate_left
                · simp only [Act.put, List.setIfInBounds_toArray, List.set_cons_zero, List.set_cons_succ, i64_w, i32_w]
                  rfl
                refine pure_ (i := 18) (N := some 58) (v := undef) (a' := ?_) #[true, true, true, true, true, true, true, true, true, true, true, true, true, true, true, true, true, true, true, false, false, false, false, false] rfl rfl (any_of HT_.out (by kernel_rfl)) (fun _ _ _ h => h) (Or.inr ⟨by rfl, rfl⟩) ?_ ?_
                rotate_left
                · simp only [Act.put, List.setIfInBounds_toArray, List.set_cons_zero, List.set_cons_succ, i64_w, i32_w]
                  rfl
                refine pure_ (i := 19) (N := some 59) (v := undef) (a' := ?_) #[true, true, true, true, true, true, true, true, true, true, true, true, true, true, true, true, true, true, true, true, false, false, false, false] rfl rfl (any_of HT_.out (by kernel_rfl)) (fun _ _ _ h => h) (Or.inr ⟨by rfl, rfl⟩) ?_ ?_
                rotate_left
                · simp only [Act.put, List.setIfInBounds_toArray, List.set_cons_zero, List.set_cons_succ, i64_w, i32_w]
                  rfl
                refine pure_ (i := 20) (N := some 60) (v := undef) (a' := ?_) #[true, true, true, true, true, true, true, true, true, true, true, true, true, true, true, true, true, true, true, true, true, false, false, false] rfl rfl (any_of HT_.out (by kernel_rfl)) (fun _ _ _ h => h) (Or.inr ⟨by rfl, rfl⟩) ?_ ?_
                rotate_left
                · simp only [Act.put, List.setIfInBounds_toArray, List.set_cons_zero, List.set_cons_succ, i64_w, i32_w]
                  rfl
                refine pure_ (i := 21) (N := some 61) (v := undef) (a' := ?_) #[true, true, true, true, true, true, true, true, true, true, true, true, true, true, true, true, true, true, true, true, true, true, false, false] rfl rfl (any_of HT_.out (by kernel_rfl)) (fun _ _ _ h => h) (Or.inr ⟨by rfl, rfl⟩) ?_ ?_
                rotate_left
                · simp only [Act.put, List.setIfInBounds_toArray, List.set_cons_zero, List.set_cons_succ, i64_w, i32_w]
                  rfl
                refine pure_ (i := 22) (N := some 62) (v := undef) (a' := ?_) #[true, true, true, true, true, true, true, true, true, true, true, true, true, true, true, true, true, true, true, true, true, true, true, false] rfl rfl (any_of HT_.out (by kernel_rfl)) (fun _ _ _ h => h) (Or.inr ⟨by rfl, rfl⟩) ?_ ?_
                rotate_left
                · simp only [Act.put, List.setIfInBounds_toArray, List.set_cons_zero, List.set_cons_succ, i64_w, i32_w]
                  rfl
                refine pu HT_ 23 (some 63) #[true, true, true, true, true, true, true, true, true, true, true, true, true, true, true, true, true, true, true, true, true, true, true, true] ?_
                refine done_ (done_of HT_.out (by kernel_rfl)) ?_
                try go_wp2
                go_meet
                case rel => exact ⟨_, (true), (by first | rfl | (simp; done) | (simp [*]; done)), H', ⟨by have := HJ5.out; first | omega | exact Nat.le_refl _⟩, ka BK265, ka BK266, ka BK267, ba HB⟩
              · rw [if_neg c39] at H
                have c39b0 : (t275 != t276) = false := by first | (simp; done) | (simp at c39; done) | simpa using c39
                (try (have c39b1 : decide (t275 = t276) = true := by first | (simp; done) | (simp at c39; done) | simpa using c39))
                (try (have c39b2 : (t275 == t276) = true := by first | (simp; done) | (simp at c39; done) | simpa using c39))
                clear c39
                replace H := Option.bind_eq_some_iff.mp H
                obtain ⟨t277, A430, H⟩ := H
                try dsimp only at H
                have A43 := Aside0.mk A430
                clear A430
                replace H := Option.bind_eq_some_iff.mp H
                obtain ⟨t278, A440, H⟩ := H
                try dsimp only at H
                have A44 := Aside0.mk A440
                clear A440
                have H' := Aside0.mk H
                clear H
                try go_wp2
                have n0_ := Aside0.mk (blk_drew BK265.out)
                have n1_ := Aside0.mk (blk_drew BK266.out)
                have n2_ := Aside0.mk (blk_drew BK267.out)
                have n3_ := Aside0.mk (below_drew1 HB.out)
                clear BK265
                clear BK266
                clear BK267
                clear HB
                have BK265 := n0_
                have BK266 := n1_
                have BK267 := n2_
                have HB := n3_
                clear n0_ n1_ n2_ n3_
                refine start_ (n := 24) (S := fun w' => w'.cell? ⟨gb265, 0, none⟩ = some (.slice A0_0 l0_0.length c0_0) ∧ w'.cell? ⟨gb265, 1, none⟩ = some (.bool a0_1) ∧ w'.cell? ⟨gb265, 2, none⟩ = some (.int .i64 a0_2) ∧ w'.cell? ⟨gb267, 0, none⟩ = some (.slice A3_0 l3_0.length c3_0) ∧ w'.cell? ⟨gb267, 1, none⟩ = some (.bool a3_1) ∧ w'.cell? ⟨gb267, 2, none⟩ = some (.int .i64 a3_2)) (ds := []) #[false, false, false, false, false, false, false, false, false, false, false, false, false, false, false, false, false, false, false, false, false, false, false, false] (by kernel_rfl) rfl rfl ⟨(blk_cell BK265.out 0).trans rfl, (blk_cell BK265.out 1).trans rfl, (blk_cell BK265.out 2).trans rfl, (blk_cell BK267.out 0).trans rfl, (blk_cell BK267.out 1).trans rfl, (blk_cell BK267.out 2).trans rfl⟩ (fun hHeld => ?_); refine with_tabW epactlaw09_LeapTells.tab6 epactlaw09_LeapTells.bits6 (fun HT_ HW_ => ?_)
                generalize w34.drew = w45 at BK265 BK266 BK267 HB hHeld ⊢
                refine pu HT_ 0 (some 40) #[true, false, false, false, false, false, false, false, false, false, false, false, false, false, false, false, false, false, false, false, false, false, false, false] ?_
                refine pu HT_ 1 (some 41) #[true, true, false, false, false, false, false, false, false, false, false, false, false, false, false, false, false, false, false, false, false, false, false, false] ?_
                refine pu HT_ 2 (some 42) #[true, true, true, false, false, false, false, false, false, false, false, false, false, false, false, false, false, false, false, false, false, false, false, false] ?_
                refine pu HT_ 3 (some 43) #[true, true, true, true, false, false, false, false, false, false, false, false, false, false, false, false, false, false, false, false, false, false, false, false] ?_
                refine pu HT_ 4 (some 44) #[true, true, true, true, true, false, false, false, false, false, false, false, false, false, false, false, false, false, false, false, false, false, false, false] ?_
                refine pu HT_ 5 (some 45) #[true, true, true, true, true, true, false, false, false, false, false, false, false, false, false, false, false, false, false, false, false, false, false, false] ?_
                refine pu HT_ 6 (some 46) #[true, true, true, true, true, true, true, false, false, false, false, false, false, false, false, false, false, false, false, false, false, false, false, false] ?_
                refine pu HT_ 7 (some 47) #[true, true, true, true, true, true, true, true, false, false, false, false, false, false, false, false, false, false, false, false, false, false, false, false] ?_
                refine pu HT_ 8 (some 48) #[true, true, true, true, true, true, true, true, true, false, false, false, false, false, false, false, false, false, false, false, false, false, false, false] ?_
                refine take_ (i := 9) (N := some 49) (v := ?_) (a' := ?_) #[true, true, true, true, true, true, true, true, true, true, false, false, false, false, false, false, false, false, false, false, false, false, false, false] rfl rfl (take_ofW HT_.out HW_.out (by kernel_rfl)) (fun _ _ _ h => h) (Or.inl ⟨by rfl, ?_⟩) hHeld ?_ ?_
                rotate_left
                · rintro w' ⟨s0, s1, s2, s3, s4, s5⟩
                  go_simp
                  with_reducible rfl
                rotate_left
                · simp only [Act.put, List.setIfInBounds_toArray, List.set_cons_zero, List.set_cons_succ, i64_w, i32_w]
                  rfl
                refine take_ (i := 11) (N := some 51) (v := ?_) (a' := ?_) #[true, true, true, true, true, true, true, true, true, true, false, true, false, false, false, false, false, false, false, false, false, false, false, false] rfl rfl (take_ofW HT_.out HW_.out (by kernel_rfl)) (fun _ _ _ h => h) (Or.inl ⟨by rfl, ?_⟩) hHeld ?_ ?_
                rotate_left
                · rintro w' ⟨s0, s1, s2, s3, s4, s5⟩
                  go_simp
                  with_reducible rfl
                rotate_left
                · simp only [Act.put, List.setIfInBounds_toArray, List.set_cons_zero, List.set_cons_succ, i64_w, i32_w]
                  rfl
                refine one_ (i := 10) (N := some 50) #[true, true, true, true, true, true, true, true, true, true, true, true, false, false, false, false, false, false, false, false, false, false, false, false] rfl rfl (one_of HT_.out (by kernel_rfl)) (by decide) (fun K hK => ?_)
                refine goes_ Try.func13 (by kernel_rfl) rfl #[.agg #[.slice A0_0 l0_0.length c0_0, .bool a0_1, .int .i64 a0_2]] (by rfl) rfl rfl (by (try simp only [List.map_toArray, List.map_cons, List.map_nil]); first | done | rfl | (simp only [List.length_drop, List.length_take]; rfl)) ?_
                with_reducible refine (leap_Right.calls kj5 _ _ l0_0 a0_1 a0_2 t275 _ ?side1 ?side2 A37.out).mono ?_
                (case side1 => exact cb HR0_0 HB)
                (case side2 => exact HC0_0.out)
                rintro e w46 ⟨rfl, hb⟩
                refine ⟨_, rfl, ?_⟩
                have n0_ := kb BK265 hb
                have n1_ := kb BK266 hb
                have n2_ := kb BK267 hb
                have n3_ := bs HB hb
                clear BK265
                clear BK266
                clear BK267
                clear HB
                have BK265 := n0_
                have BK266 := n1_
                have BK267 := n2_
                have HB := n3_
                clear n0_ n1_ n2_ n3_
                (try clear hb)
                (try clear hb2)
                (try clear hk)
                (try clear hi)
                refine hK.out _ _ ⟨(blk_cell BK265.out 0).trans rfl, (blk_cell BK265.out 1).trans rfl, (blk_cell BK265.out 2).trans rfl, (blk_cell BK267.out 0).trans rfl, (blk_cell BK267.out 1).trans rfl, (blk_cell BK267.out 2).trans rfl⟩ (fun hHeld => ?_)
                clear hK K
                refine norm_ (a' := ?_) ?_ ?_
                rotate_left
                · show Act.put _ (some 50) _ = _
                  simp only [Act.put, List.setIfInBounds_toArray, List.set_cons_zero, List.set_cons_succ, i64_w, i32_w]
                  rfl
                refine one_ (i := 12) (N := some 52) #[true, true, true, true, true, true, true, true, true, true, true, true, true, false, false, false, false, false, false, false, false, false, false, false] rfl rfl (one_of HT_.out (by kernel_rfl)) (by decide) (fun K hK => ?_)
                refine goes_ Try.func14 (by kernel_rfl) rfl #[.agg #[.slice A0_0 l0_0.length c0_0, .bool a0_1, .int .i64 a0_2]] (by rfl) rfl rfl (by (try simp only [List.map_toArray, List.map_cons, List.map_nil]); first | done | rfl | (simp only [List.length_drop, List.length_take]; rfl)) ?_
                with_reducible refine (epactref09_Right.calls kj5 _ _ l0_0 a0_1 a0_2 t276 _ ?side1 ?side2 A38.out).mono ?_
                (case side1 => exact cb HR0_0 HB)
                (case side2 => exact HC0_0.out)
                rintro e w47 ⟨rfl, hb⟩
                refine ⟨_, rfl, ?_⟩
                have n0_ := kb BK265 hb
                have n1_ := kb BK266 hb
                have n2_ := kb BK267 hb
                have n3_ := bs HB hb
                clear BK265
                clear BK266
                clear BK267
                clear HB
                have BK265 := n0_
                have BK266 := n1_
                have BK267 := n2_
                have HB := n3_
                clear n0_ n1_ n2_ n3_
                (try clear hb)
                (try clear hb2)
                (try clear hk)
                (try clear hi)
                refine hK.out _ _ ⟨(blk_cell BK265.out 0).trans rfl, (blk_cell BK265.out 1).trans rfl, (blk_cell BK265.out 2).trans rfl, (blk_cell BK267.out 0).trans rfl, (blk_cell BK267.out 1).trans rfl, (blk_cell BK267.out 2).trans rfl⟩ (fun hHeld => ?_)
                clear hK K
                refine norm_ (a' := ?_) ?_ ?_
                rotate_left
                · show Act.put _ (some 52) _ = _
                  simp only [Act.put, List.setIfInBounds_toArray, List.set_cons_zero, List.set_cons_succ, i64_w, i32_w]
                  rfl
                refine pu HT_ 13 (some 53) #[true, true, true, true, true, true, true, true, true, true, true, true, true, true, false, false, false, false, false, false, false, false, false, false] ?_
                refine pu HT_ 14 (some 54) #[true, true, true, true, true, true, true, true, true, true, true, true, true, true, true, false, false, false, false, false, false, false, false, false] ?_
                refine pu HT_ 15 (some 55) #[true, true, true, true, true, true, true, true, true, true, true, true, true, true, true, true, false, false, false, false, false, false, false, false] ?_
                refine take_ (i := 16) (N := some 56) (v := ?_) (a' := ?_) #[true, true, true, true, true, true, true, true, true, true, true, true, true, true, true, true, true, false, false, false, false, false, false, false] rfl rfl (take_ofW HT_.out HW_.out (by kernel_rfl)) (fun _ _ _ h => h) (Or.inl ⟨by rfl, ?_⟩) hHeld ?_ ?_
                rotate_left
                · rintro w' ⟨s0, s1, s2, s3, s4, s5⟩
                  go_simp
                  with_reducible rfl
                rotate_left
                · simp only [Act.put, List.setIfInBounds_toArray, List.set_cons_zero, List.set_cons_succ, i64_w, i32_w]
                  rfl
                refine take_ (i := 17) (N := some 57) (v := ?_) (a' := ?_) #[true, true, true, true, true, true, true, true, true, true, true, true, true, true, true, true, true, true, false, false, false, false, false, false] rfl rfl (take_ofW HT_.out HW_.out (by kernel_rfl)) (fun _ _ _ h => h) (Or.inl ⟨by rfl, ?_⟩) hHeld ?_ ?_
                rotate_left
                · rintro w' ⟨s0, s1, s2, s3, s4, s5⟩
                  go_simp
                  with_reducible rfl
                rotate_left
                · simp only [Act.put, List.setIfInBounds_toArray, List.set_cons_zero, List.set_cons_succ, i64_w, i32_w]
                  rfl
                refine take_ (i := 19) (N := some 59) (v := ?_) (a' := ?_) #[true, true, true, true, true, true, true, true, true, true, true, true, true, true, true, true, true, true, false, true, false, false, false, false] rfl rfl (take_ofW HT_.out HW_.out (by kernel_rfl)) (fun _ _ _ h => h) (Or.inl ⟨by rfl, ?_⟩) hHeld ?_ ?_
                rotate_left
                · rintro w' ⟨s0, s1, s2, s3, s4, s5⟩
                  go_simp
                  with_reducible rfl
                rotate_left
                · simp only [Act.put, List.setIfInBounds_toArray, List.set_cons_zero, List.set_cons_succ, i64_w, i32_w]
                  rfl
                refine take_ (i := 20) (N := some 60) (v := ?_) (a' := ?_) #[true, true, true, true, true, true, true, true, true, true, true, true, true, true, true, true, true, true, false, true, true, false, false, false] rfl rfl (take_ofW HT_.out HW_.out (by kernel_rfl)) (fun _ _ _ h => h) (Or.inl ⟨by rfl, ?_⟩) hHeld ?_ ?_
                rotate_left
                · rintro w' ⟨s0, s1, s2, s3, s4, s5⟩
                  go_simp
                  with_reducible rfl
                rotate_left
                · simp only [Act.put, List.setIfInBounds_toArray, List.set_cons_zero, List.set_cons_succ, i64_w, i32_w]
                  rfl
                refine one_ (i := 18) (N := some 58) #[true, true, true, true, true, true, true, true, true, true, true, true, true, true, true, true, true, true, true, true, true, false, false, false] rfl rfl (one_of HT_.out (by kernel_rfl)) (by decide) (fun K hK => ?_)
                refine goes_ Try.func15 (by kernel_rfl) rfl #[.agg #[.slice A0_0 l0_0.length c0_0, .bool a0_1, .int .i64 a0_2], .agg #[.slice A3_0 l3_0.length c3_0, .bool a3_1, .int .i64 a3_2]] (by rfl) rfl rfl (by (try simp only [List.map_toArray, List.map_cons, List.map_nil]); first | done | rfl | (simp only [List.length_drop, List.length_take]; rfl)) ?_
                with_reducible refine (leap_Same.calls kj5 _ _ l0_0 a0_1 a0_2 _ _ l3_0 a3_1 a3_2 t277 _ ?side1 ?side2 ?side3 ?side4 A43.out).mono ?_
                (case side1 => exact cb HR0_0 HB)
                (case side2 => exact HC0_0.out)
                (case side3 => exact cb HR3_0 HB)
                (case side4 => exact HC3_0.out)
                rintro e w48 ⟨rfl, hb⟩
                refine ⟨_, rfl, ?_⟩
                have n0_ := kb BK265 hb
                have n1_ := kb BK266 hb
                have n2_ := kb BK267 hb
                have n3_ := bs HB hb
                clear BK265
                clear BK266
                clear BK267
                clear HB
                have BK265 := n0_
                have BK266 := n1_
                have BK267 := n2_
                have HB := n3_
                clear n0_ n1_ n2_ n3_
                (try clear hb)
                (try clear hb2)
                (try clear hk)
                (try clear hi)
                refine hK.out _ _ ⟨(blk_cell BK265.out 0).trans rfl, (blk_cell BK265.out 1).trans rfl, (blk_cell BK265.out 2).trans rfl, (blk_cell BK267.out 0).trans rfl, (blk_cell BK267.out 1).trans rfl, (blk_cell BK267.out 2).trans rfl⟩ (fun hHeld => ?_)
                clear hK K
                refine norm_ (a' := ?_) ?_ ?_
                rotate_left
                · show Act.put _ (some 58) _ = _
                  simp only [Act.put, List.setIfInBounds_toArray, List.set_cons_zero, List.set_cons_succ, i64_w, i32_w]
                  rfl
                refine one_ (i := 21) (N := some 61) #[true, true, true, true, true, true, true, true, true, true, true, true, true, true, true, true, true, true, true, true, true, true, false, false] rfl rfl (one_of HT_.out (by kernel_rfl)) (by decide) (fun K hK => ?_)
                refine goes_ Try.func16 (by kernel_rfl) rfl #[.agg #[.slice A0_0 l0_0.length c0_0, .bool a0_1, .int .i64 a0_2], .agg #[.slice A3_0 l3_0.length c3_0, .bool a3_1, .int .i64 a3_2]] (by rfl) rfl rfl (by (try simp only [List.map_toArray, List.map_cons, List.map_nil]); first | done | rfl | (simp only [List.length_drop, List.length_take]; rfl)) ?_
                with_reducible refine (epactref09_Same.calls kj5 _ _ l0_0 a0_1 a0_2 _ _ l3_0 a3_1 a3_2 t278 _ ?side1 ?side2 ?side3 ?side4 A44.out).mono ?_
                (case side1 => exact cb HR0_0 HB)
                (case side2 => exact HC0_0.out)
                (case side3 => exact cb HR3_0 HB)
                (case side4 => exact HC3_0.out)
                rintro e w49 ⟨rfl, hb⟩
                refine ⟨_, rfl, ?_⟩
                have n0_ := kb BK265 hb
                have n1_ := kb BK266 hb
                have n2_ := kb BK267 hb
                have n3_ := bs HB hb
                clear BK265
                clear BK266
                clear BK267
                clear HB
                have BK265 := n0_
                have BK266 := n1_
                have BK267 := n2_
                have HB := n3_
                clear n0_ n1_ n2_ n3_
                (try clear hb)
                (try clear hb2)
                (try clear hk)
                (try clear hi)
                refine hK.out _ _ ⟨(blk_cell BK265.out 0).trans rfl, (blk_cell BK265.out 1).trans rfl, (blk_cell BK265.out 2).trans rfl, (blk_cell BK267.out 0).trans rfl, (blk_cell BK267.out 1).trans rfl, (blk_cell BK267.out 2).trans rfl⟩ (fun hHeld => ?_)
                clear hK K
                refine norm_ (a' := ?_) ?_ ?_
                rotate_left
                · show Act.put _ (some 61) _ = _
                  simp only [Act.put, List.setIfInBounds_toArray, List.set_cons_zero, List.set_cons_succ, i64_w, i32_w]
                  rfl
                refine pu HT_ 22 (some 62) #[true, true, true, true, true, true, true, true, true, true, true, true, true, true, true, true, true, true, true, true, true, true, true, false] ?_
                refine pu HT_ 23 (some 63) #[true, true, true, true, true, true, true, true, true, true, true, true, true, true, true, true, true, true, true, true, true, true, true, true] ?_
                refine done_ (done_of HT_.out (by kernel_rfl)) ?_
                try go_wp2
                go_meet
                case rel => exact ⟨_, ((t277 != t278)), (by first | rfl | (simp; done) | (simp [*]; done)), H', ⟨by have := HJ5.out; first | omega | exact Nat.le_refl _⟩, ka BK265, ka BK266, ka BK267, ba HB⟩
            · rw [if_neg c36] at H
              have c36b0 : (t272 == t274) = false := beq_eq_false_iff_ne.mpr c36
              have c36b1 : (t272 != t274) = true := bne_iff_ne.mpr c36
              have H' := Aside0.mk H
              clear H
              try go_wp2
              have n0_ := Aside0.mk (blk_drew BK265.out)
              have n1_ := Aside0.mk (blk_drew BK266.out)
              have n2_ := Aside0.mk (blk_drew BK267.out)
              have n3_ := Aside0.mk (below_drew1 HB.out)
              clear BK265
              clear BK266
              clear BK267
              clear HB
              have BK265 := n0_
              have BK266 := n1_
              have BK267 := n2_
              have HB := n3_
              clear n0_ n1_ n2_ n3_
              refine start_ (n := 24) (S := fun w' => True) (ds := []) #[false, false, false, false, false, false, false, false, false, false, false, false, false, false, false, false, false, false, false, false, false, false, false, false] (by kernel_rfl) rfl rfl trivial (fun hHeld => ?_); refine with_tabW epactlaw09_LeapTells.tab6 epactlaw09_LeapTells.bits6 (fun HT_ HW_ => ?_)
              generalize w34.drew = w50 at BK265 BK266 BK267 HB hHeld ⊢
              refine pu HT_ 0 (some 40) #[true, false, false, false, false, false, false, false, false, false, false, false, false, false, false, false, false, false, false, false, false, false, false, false] ?_
              refine pu HT_ 1 (some 41) #[true, true, false, false, false, false, false, false, false, false, false, false, false, false, false, false, false, false, false, false, false, false, false, false] ?_
              refine pu HT_ 2 (some 42) #[true, true, true, false, false, false, false, false, false, false, false, false, false, false, false, false, false, false, false, false, false, false, false, false] ?_
              refine pu HT_ 3 (some 43) #[true, true, true, true, false, false, false, false, false, false, false, false, false, false, false, false, false, false, false, false, false, false, false, false] ?_
              refine pu HT_ 4 (some 44) #[true, true, true, true, true, false, false, false, false, false, false, false, false, false, false, false, false, false, false, false, false, false, false, false] ?_
              refine pu HT_ 5 (some 45) #[true, true, true, true, true, true, false, false, false, false, false, false, false, false, false, false, false, false, false, false, false, false, false, false] ?_
              refine pu HT_ 6 (some 46) #[true, true, true, true, true, true, true, false, false, false, false, false, false, false, false, false, false, false, false, false, false, false, false, false] ?_
              refine pu HT_ 7 (some 47) #[true, true, true, true, true, true, true, true, false, false, false, false, false, false, false, false, false, false, false, false, false, false, false, false] ?_
              refine pu HT_ 8 (some 48) #[true, true, true, true, true, true, true, true, true, false, false, false, false, false, false, false, false, false, false, false, false, false, false, false] ?_
              refine pure_ (i := 9) (N := some 49) (v := undef) (a' := ?_) #[true, true, true, true, true, true, true, true, true, true, false, false, false, false, false, false, false, false, false, false, false, false, false, false] rfl rfl (any_of HT_.out (by kernel_rfl)) (fun _ _ _ h => h) (Or.inr ⟨by rfl, rfl⟩) ?_ ?_
              rotate_left
              · simp only [Act.put, List.setIfInBounds_toArray, List.set_cons_zero, List.set_cons_succ, i64_w, i32_w]
                rfl
              refine pure_ (i := 10) (N := some 50) (v := undef) (a' := ?_) #[true, true, true, true, true, true, true, true, true, true, true, false, false, false, false, false, false, false, false, false, false, false, false, false] rfl rfl (any_of HT_.out (by kernel_rfl)) (fun _ _ _ h => h) (Or.inr ⟨by rfl, rfl⟩) ?_ ?_
              rotate_left
              · simp only [Act.put, List.setIfInBounds_toArray, List.set_cons_zero, List.set_cons_succ, i64_w, i32_w]
                rfl
              refine pure_ (i := 11) (N := some 51) (v := undef) (a' := ?_) #[true, true, true, true, true, true, true, true, true, true, true, true, false, false, false, false, false, false, false, false, false, false, false, false] rfl rfl (any_of HT_.out (by kernel_rfl)) (fun _ _ _ h => h) (Or.inr ⟨by rfl, rfl⟩) ?_ ?_
              rotate_left
              · simp only [Act.put, List.setIfInBounds_toArray, List.set_cons_zero, List.set_cons_succ, i64_w, i32_w]
                rfl
              refine pure_ (i := 12) (N := some 52) (v := undef) (a' := ?_) #[true, true, true, true, true, true, true, true, true, true, true, true, true, false, false, false, false, false, false, false, false, false, false, false] rfl rfl (any_of HT_.out (by kernel_rfl)) (fun _ _ _ h => h) (Or.inr ⟨by rfl, rfl⟩) ?_ ?_
              rotate_left
              · simp only [Act.put, List.setIfInBounds_toArray, List.set_cons_zero, List.set_cons_succ, i64_w, i32_w]
                rfl
              refine pure_ (i := 13) (N := some 53) (v := undef) (a' := ?_) #[true, true, true, true, true, true, true, true, true, true, true, true, true, true, false, false, false, false, false, false, false, false, false, false] rfl rfl (any_of HT_.out (by kernel_rfl)) (fun _ _ _ h => h) (Or.inr ⟨by rfl, rfl⟩) ?_ ?_
              rotate_left
              · simp only [Act.put, List.setIfInBounds_toArray, List.set_cons_zero, List.set_cons_succ, i64_w, i32_w]
                rfl
              refine pu HT_ 14 (some 54) #[true, true, true, true, true, true, true, true, true, true, true, true, true, true, true, false, false, false, false, false, false, false, false, false] ?_
              refine pu HT_ 15 (some 55) #[true, true, true, true, true, true, true, true, true, true, true, true, true, true, true, true, false, false, false, false, false, false, false, false] ?_
              refine pure_ (i := 16) (N := some 56) (v := undef) (a' := ?_) #[true, true, true, true, true, true, true, true, true, true, true, true, true, true, true, true, true, false, false, false, false, false, false, false] rfl rfl (any_of HT_.out (by kernel_rfl)) (fun _ _ _ h => h) (Or.inr ⟨by rfl, rfl⟩) ?_ ?_
              rotate_left
              · simp only [Act.put, List.setIfInBounds_toArray, List.set_cons_zero, List.set_cons_succ, i64_w, i32_w]
                rfl
              refine pure_ (i := 17) (N := some 57) (v := undef) (a' := ?_) #[true, true, true, true, true, true, true, true, true, true, true, true, true, true, true, true, true, true, false, false, false, false, false, false] rfl rfl (any_of HT_.out (by kernel_rfl)) (fun _ _ _ h => h) (Or.inr ⟨by rfl, rfl⟩) ?_ ?_
              rotate_left
              · simp only [Act.put, List.setIfInBounds_toArray, List.set_cons_zero, List.set_cons_succ, i64_w, i32_w]
                rfl
              refine pure_ (i := 18) (N := some 58) (v := undef) (a' := ?_) #[true, true, true, true, true, true, true, true, true, true, true, true, true, true, true, true, true, true, true, false, false, false, false, false] rfl rfl (any_of HT_.out (by kernel_rfl)) (fun _ _ _ h => h) (Or.inr ⟨by rfl, rfl⟩) ?_ ?_
              rotate_left
              · simp only [Act.put, List.setIfInBounds_toArray, List.set_cons_zero, List.set_cons_succ, i64_w, i32_w]
                rfl
              refine pure_ (i := 19) (N := some 59) (v := undef) (a' := ?_) #[true, true, true, true, true, true, true, true, true, true, true, true, true, true, true, true, true, true, true, true, false, false, false, false] rfl rfl (any_of HT_.out (by kernel_rfl)) (fun _ _ _ h => h) (Or.inr ⟨by rfl, rfl⟩) ?_ ?_
              rotate_left
              · simp only [Act.put, List.setIfInBounds_toArray, List.set_cons_zero, List.set_cons_succ, i64_w, i32_w]
                rfl
              refine pure_ (i := 20) (N := some 60) (v := undef) (a' := ?_) #[true, true, true, true, true, true, true, true, true, true, true, true, true, true, true, true, true, true, true, true, true, false, false, false] rfl rfl (any_of HT_.out (by kernel_rfl)) (fun _ _ _ h => h) (Or.inr ⟨by rfl, rfl⟩) ?_ ?_
              rotate_left
              · simp only [Act.put, List.setIfInBounds_toArray, List.set_cons_zero, List.set_cons_succ, i64_w, i32_w]
                rfl
              refine pure_ (i := 21) (N := some 61) (v := undef) (a' := ?_) #[true, true, true, true, true, true, true, true, true, true, true, true, true, true, true, true, true, true, true, true, true, true, false, false] rfl rfl (any_of HT_.out (by kernel_rfl)) (fun _ _ _ h => h) (Or.inr ⟨by rfl, rfl⟩) ?_ ?_
              rotate_left
              · simp only [Act.put, List.setIfInBounds_toArray, List.set_cons_zero, List.set_cons_succ, i64_w, i32_w]
                rfl
              refine pure_ (i := 22) (N := some 62) (v := undef) (a' := ?_) #[true, true, true, true, true, true, true, true, true, true, true, true, true, true, true, true, true, true, true, true, true, true, true, false] rfl rfl (any_of HT_.out (by kernel_rfl)) (fun _ _ _ h => h) (Or.inr ⟨by rfl, rfl⟩) ?_ ?_
              rotate_left
              · simp only [Act.put, List.setIfInBounds_toArray, List.set_cons_zero, List.set_cons_succ, i64_w, i32_w]
                rfl
              refine pu HT_ 23 (some 63) #[true, true, true, true, true, true, true, true, true, true, true, true, true, true, true, true, true, true, true, true, true, true, true, true] ?_
              refine done_ (done_of HT_.out (by kernel_rfl)) ?_
              try go_wp2
              go_meet
              case rel => exact ⟨_, (true), (by first | rfl | (simp; done) | (simp [*]; done)), H', ⟨by have := HJ5.out; first | omega | exact Nat.le_refl _⟩, ka BK265, ka BK266, ka BK267, ba HB⟩
          · rw [if_neg c35] at H
            have c35b0 : (t271 == t273) = false := beq_eq_false_iff_ne.mpr c35
            have c35b1 : (t271 != t273) = true := bne_iff_ne.mpr c35
            (first | rw [c35b0] | (simp only [i64_w, i32_w]; rw [c35b0]) | skip)
            have H' := Aside0.mk H
            clear H
            try go_wp2
            have n0_ := Aside0.mk (blk_drew BK265.out)
            have n1_ := Aside0.mk (blk_drew BK266.out)
            have n2_ := Aside0.mk (blk_drew BK267.out)
            have n3_ := Aside0.mk (below_drew1 HB.out)
            clear BK265
            clear BK266
            clear BK267
            clear HB
            have BK265 := n0_
            have BK266 := n1_
            have BK267 := n2_
            have HB := n3_
            clear n0_ n1_ n2_ n3_
            refine start_ (n := 24) (S := fun w' => True) (ds := []) #[false, false, false, false, false, false, false, false, false, false, false, false, false, false, false, false, false, false, false, false, false, false, false, false] (by kernel_rfl) rfl rfl trivial (fun hHeld => ?_); refine with_tabW epactlaw09_LeapTells.tab6 epactlaw09_LeapTells.bits6 (fun HT_ HW_ => ?_)
            generalize w34.drew = w51 at BK265 BK266 BK267 HB hHeld ⊢
            refine pu HT_ 0 (some 40) #[true, false, false, false, false, false, false, false, false, false, false, false, false, false, false, false, false, false, false, false, false, false, false, false] ?_
            refine pu HT_ 1 (some 41) #[true, true, false, false, false, false, false, false, false, false, false, false, false, false, false, false, false, false, false, false, false, false, false, false] ?_
            refine pu HT_ 2 (some 42) #[true, true, true, false, false, false, false, false, false, false, false, false, false, false, false, false, false, false, false, false, false, false, false, false] ?_
            refine pu HT_ 3 (some 43) #[true, true, true, true, false, false, false, false, false, false, false, false, false, false, false, false, false, false, false, false, false, false, false, false] ?_
            refine pure_ (i := 4) (N := some 44) (v := undef) (a' := ?_) #[true, true, true, true, true, false, false, false, false, false, false, false, false, false, false, false, false, false, false, false, false, false, false, false] rfl rfl (any_of HT_.out (by kernel_rfl)) (fun _ _ _ h => h) (Or.inr ⟨by rfl, rfl⟩) ?_ ?_
            rotate_left
            · simp only [Act.put, List.setIfInBounds_toArray, List.set_cons_zero, List.set_cons_succ, i64_w, i32_w]
              rfl
            refine pure_ (i := 5) (N := some 45) (v := undef) (a' := ?_) #[true, true, true, true, true, true, false, false, false, false, false, false, false, false, false, false, false, false, false, false, false, false, false, false] rfl rfl (any_of HT_.out (by kernel_rfl)) (fun _ _ _ h => h) (Or.inr ⟨by rfl, rfl⟩) ?_ ?_
            rotate_left
            · simp only [Act.put, List.setIfInBounds_toArray, List.set_cons_zero, List.set_cons_succ, i64_w, i32_w]
              rfl
            refine pure_ (i := 6) (N := some 46) (v := undef) (a' := ?_) #[true, true, true, true, true, true, true, false, false, false, false, false, false, false, false, false, false, false, false, false, false, false, false, false] rfl rfl (any_of HT_.out (by kernel_rfl)) (fun _ _ _ h => h) (Or.inr ⟨by rfl, rfl⟩) ?_ ?_
            rotate_left
            · simp only [Act.put, List.setIfInBounds_toArray, List.set_cons_zero, List.set_cons_succ, i64_w, i32_w]
              rfl
            refine pu HT_ 7 (some 47) #[true, true, true, true, true, true, true, true, false, false, false, false, false, false, false, false, false, false, false, false, false, false, false, false] ?_
            refine pu HT_ 8 (some 48) #[true, true, true, true, true, true, true, true, true, false, false, false, false, false, false, false, false, false, false, false, false, false, false, false] ?_
            refine pure_ (i := 9) (N := some 49) (v := undef) (a' := ?_) #[true, true, true, true, true, true, true, true, true, true, false, false, false, false, false, false, false, false, false, false, false, false, false, false] rfl rfl (any_of HT_.out (by kernel_rfl)) (fun _ _ _ h => h) (Or.inr ⟨by rfl, rfl⟩) ?_ ?_
            rotate_left
            · simp only [Act.put, List.setIfInBounds_toArray, List.set_cons_zero, List.set_cons_succ, i64_w, i32_w]
              rfl
            refine pure_ (i := 10) (N := some 50) (v := undef) (a' := ?_) #[true, true, true, true, true, true, true, true, true, true, true, false, false, false, false, false, false, false, false, false, false, false, false, false] rfl rfl (any_of HT_.out (by kernel_rfl)) (fun _ _ _ h => h) (Or.inr ⟨by rfl, rfl⟩) ?_ ?_
            rotate_left
            · simp only [Act.put, List.setIfInBounds_toArray, List.set_cons_zero, List.set_cons_succ, i64_w, i32_w]
              rfl
            refine pure_ (i := 11) (N := some 51) (v := undef) (a' := ?_) #[true, true, true, true, true, true, true, true, true, true, true, true, false, false, false, false, false, false, false, false, false, false, false, false] rfl rfl (any_of HT_.out (by kernel_rfl)) (fun _ _ _ h => h) (Or.inr ⟨by rfl, rfl⟩) ?_ ?_
            rotate_left
            · simp only [Act.put, List.setIfInBounds_toArray, List.set_cons_zero, List.set_cons_succ, i64_w, i32_w]
              rfl
            refine pure_ (i := 12) (N := some 52) (v := undef) (a' := ?_) #[true, true, true, true, true, true, true, true, true, true, true, true, true, false, false, false, false, false, false, false, false, false, false, false] rfl rfl (any_of HT_.out (by kernel_rfl)) (fun _ _ _ h => h) (Or.inr ⟨by rfl, rfl⟩) ?_ ?_
            rotate_left
            · simp only [Act.put, List.setIfInBounds_toArray, List.set_cons_zero, List.set_cons_succ, i64_w, i32_w]
              rfl
            refine pure_ (i := 13) (N := some 53) (v := undef) (a' := ?_) #[true, true, true, true, true, true, true, true, true, true, true, true, true, true, false, false, false, false, false, false, false, false, false, false] rfl rfl (any_of HT_.out (by kernel_rfl)) (fun _ _ _ h => h) (Or.inr ⟨by rfl, rfl⟩) ?_ ?_
            rotate_left
            · simp only [Act.put, List.setIfInBounds_toArray, List.set_cons_zero, List.set_cons_succ, i64_w, i32_w]
              rfl
            refine pu HT_ 14 (some 54) #[true, true, true, true, true, true, true, true, true, true, true, true, true, true, true, false, false, false, false, false, false, false, false, false] ?_
            refine pu HT_ 15 (some 55) #[true, true, true, true, true, true, true, true, true, true, true, true, true, true, true, true, false, false, false, false, false, false, false, false] ?_
            refine pure_ (i := 16) (N := some 56) (v := undef) (a' := ?_) #[true, true, true, true, true, true, true, true, true, true, true, true, true, true, true, true, true, false, false, false, false, false, false, false] rfl rfl (any_of HT_.out (by kernel_rfl)) (fun _ _ _ h => h) (Or.inr ⟨by rfl, rfl⟩) ?_ ?_
            rotate_left
            · simp only [Act.put, List.setIfInBounds_toArray, List.set_cons_zero, List.set_cons_succ, i64_w, i32_w]
              rfl
            refine pure_ (i := 17) (N := some 57) (v := undef) (a' := ?_) #[true, true, true, true, true, true, true, true, true, true, true, true, true, true, true, true, true, true, false, false, false, false, false, false] rfl rfl (any_of HT_.out (by kernel_rfl)) (fun _ _ _ h => h) (Or.inr ⟨by rfl, rfl⟩) ?_ ?_
            rotate_left
            · simp only [Act.put, List.setIfInBounds_toArray, List.set_cons_zero, List.set_cons_succ, i64_w, i32_w]
              rfl
            refine pure_ (i := 18) (N := some 58) (v := undef) (a' := ?_) #[true, true, true, true, true, true, true, true, true, true, true, true, true, true, true, true, true, true, true, false, false, false, false, false] rfl rfl (any_of HT_.out (by kernel_rfl)) (fun _ _ _ h => h) (Or.inr ⟨by rfl, rfl⟩) ?_ ?_
            rotate_left
            · simp only [Act.put, List.setIfInBounds_toArray, List.set_cons_zero, List.set_cons_succ, i64_w, i32_w]
              rfl
            refine pure_ (i := 19) (N := some 59) (v := undef) (a' := ?_) #[true, true, true, true, true, true, true, true, true, true, true, true, true, true, true, true, true, true, true, true, false, false, false, false] rfl rfl (any_of HT_.out (by kernel_rfl)) (fun _ _ _ h => h) (Or.inr ⟨by rfl, rfl⟩) ?_ ?_
            rotate_left
            · simp only [Act.put, List.setIfInBounds_toArray, List.set_cons_zero, List.set_cons_succ, i64_w, i32_w]
              rfl
            refine pure_ (i := 20) (N := some 60) (v := undef) (a' := ?_) #[true, true, true, true, true, true, true, true, true, true, true, true, true, true, true, true, true, true, true, true, true, false, false, false] rfl rfl (any_of HT_.out (by kernel_rfl)) (fun _ _ _ h => h) (Or.inr ⟨by rfl, rfl⟩) ?_ ?_
            rotate_left
            · simp only [Act.put, List.setIfInBounds_toArray, List.set_cons_zero, List.set_cons_succ, i64_w, i32_w]
              rfl
            refine pure_ (i := 21) (N := some 61) (v := undef) (a' := ?_) #[true, true, true, true, true, true, true, true, true, true, true, true, true, true, true, true, true, true, true, true, true, true, false, false] rfl rfl (any_of HT_.out (by kernel_rfl)) (fun _ _ _ h => h) (Or.inr ⟨by rfl, rfl⟩) ?_ ?_
            rotate_left
            · simp only [Act.put, List.setIfInBounds_toArray, List.set_cons_zero, List.set_cons_succ, i64_w, i32_w]
              rfl
            refine pure_ (i := 22) (N := some 62) (v := undef) (a' := ?_) #[true, true, true, true, true, true, true, true, true, true, true, true, true, true, true, true, true, true, true, true, true, true, true, false] rfl rfl (any_of HT_.out (by kernel_rfl)) (fun _ _ _ h => h) (Or.inr ⟨by rfl, rfl⟩) ?_ ?_
            rotate_left
            · simp only [Act.put, List.setIfInBounds_toArray, List.set_cons_zero, List.set_cons_succ, i64_w, i32_w]
              rfl
            refine pu HT_ 23 (some 63) #[true, true, true, true, true, true, true, true, true, true, true, true, true, true, true, true, true, true, true, true, true, true, true, true] ?_
            refine done_ (done_of HT_.out (by kernel_rfl)) ?_
            try go_wp2
            go_meet
            case rel => exact ⟨_, (true), (by first | rfl | (simp; done) | (simp [*]; done)), H', ⟨by have := HJ5.out; first | omega | exact Nat.le_refl _⟩, ka BK265, ka BK266, ka BK267, ba HB⟩
        case rest =>
          clear HC28
          try clear c1
          try clear p2
          try clear c3
          try clear c13
          try clear c14
          try clear c15
          try clear c16
          try clear c35
          try clear c35b0
          try clear c35b1
          try clear c36
          try clear c36b0
          try clear c36b1
          obtain ⟨kq, x63_27, rfl, HA, HJ27, BK265, BK266, BK267, HB⟩ := hcut
          cases kq with
          | zero => exact absurd HA.out (by simp [epactlaw09_LeapTells.j1])
          | succ kj27 =>
            have H := HA.out
            clear HA
            simp only [epactlaw09_LeapTells.j1] at H
            by_cases c52 : x63_27 = true
            · subst c52
              rw [if_pos rfl] at H
              exact absurd H (by simp)
            · replace c52 := Bool.eq_false_iff.mpr c52
              subst c52
              rw [if_neg (show ¬ (false = true) by decide)] at H
              replace H := Option.bind_eq_some_iff.mp H
              obtain ⟨t279, A530, H⟩ := H
              try dsimp only at H
              have A53 := Aside0.mk A530
              clear A530
              by_cases c54 : t279 = true
              · subst c54
                rw [if_pos rfl] at H
                replace H := Option.bind_eq_some_iff.mp H
                obtain ⟨⟨t280, t283, t284⟩, A550, H⟩ := H
                try dsimp only at H
                have A55 := Aside0.mk A550
                clear A550
                replace H := Option.bind_eq_some_iff.mp H
                obtain ⟨⟨t286, t289, t290, t291⟩, A560, H⟩ := H
                try dsimp only at H
                have A56 := Aside0.mk A560
                clear A560
                replace H := Option.bind_eq_some_iff.mp H
                obtain ⟨⟨t293, t296, t297, t298⟩, A570, H⟩ := H
                try dsimp only at H
                have A57 := Aside0.mk A570
                clear A570
                have HC58 := Aside0.mk H
                clear H
                have hnb59 := NB265_266.out
                have hnc59 := NB266_265.out
                have hnb60 := NB265_267.out
                have hnc60 := NB267_265.out
                have hcz61_0 := bc BK265 0
                have hcz61_1 := bc BK265 1
                have hcz61_2 := bc BK265 2
                have hfz61_0 := bf BK265 0
                have hfz61_1 := bf BK265 1
                have hfz61_2 := bf BK265 2
                go_upto_region 13 with (first | (refine gL (some 65) Try.func14 #[.agg #[.slice A0_0 l0_0.length c0_0, .bool a0_1, .int .i64 a0_2]] ?_; (with_reducible refine (epactref09_Right.calls kj27 _ _ l0_0 a0_1 a0_2 true _ ?side1 ?side2 A53.out).mono ?_); (case side1 => exact cb HR0_0 HB); (case side2 => exact HC0_0.out); rintro e w62 ⟨rfl, hb⟩; refine ⟨_, rfl, ?_⟩; replace BK265 := kb BK265 hb; replace BK266 := kb BK266 hb; replace BK267 := kb BK267 hb; replace HB := bs HB hb; (try clear hb); (try clear hb2); (try clear hk); (try clear hi); have hcz63_0 := bc BK265 0; have hcz63_1 := bc BK265 1; have hcz63_2 := bc BK265 2; have hfz63_0 := bf BK265 0; have hfz63_1 := bf BK265 1; have hfz63_2 := bf BK265 2) | (refine gL (some 69) Try.func17 #[.agg #[.slice A0_0 l0_0.length c0_0, .bool a0_1, .int .i64 a0_2]] ?_; (with_reducible refine (epactref09_Copy.calls _ _ l0_0 a0_1 a0_2 t280 t283 t284 _ ?side1 ?side2 A55.out).mono ?_); (case side1 => exact cb HR0_0 HB); (case side2 => exact HC0_0.out); rintro e w64 ⟨v281, rfl, ho0, hb⟩; refine ⟨_, rfl, ?_⟩; have n0_ := Aside0.mk (Kd.R_lower (Kd.R_newB ho0 (g := gb266) (o := .cells #[.int .i64 a2_0, .int .i64 a2_1, .bool a2_2] 26 (0, 0)) (ka BK266).out) (below_size (by repeat (first | (with_reducible first | exact HB.out | apply below_alloc | apply pw_below_drewN | apply below_drew1 | refine below_set ?_ GE265.out | refine below_set ?_ GE266.out | refine below_set ?_ GE267.out) | exact HB.out)))); replace BK265 := kb BK265 hb; replace BK266 := kb BK266 hb; replace BK267 := kb BK267 hb; replace HB := bs HB hb; have HO282 := n0_; clear n0_; (try clear hb); (try clear hb2); (try clear hk); (try clear hi); (try clear ho0)) | (refine bx 14 #[.slice none 0 0, .bool false, .int .i64 0] 24 ?_; intro gb285 hg w65 hbox hb; have n5_ := Aside0.mk (hbox); have GW285 := gw HB hg; have GE285 := gw HB hg; have NB265_285 := nl BK265 hg; have NB285_265 := nr BK265 hg; have NB266_285 := nl BK266 hg; have NB285_266 := nr BK266 hg; have NB267_285 := nl BK267 hg; have NB285_267 := nr BK267 hg; replace HO282 := rb HO282 hb; replace BK265 := kb BK265 hb; replace BK266 := kb BK266 hb; replace BK267 := kb BK267 hb; replace HB := bs HB hb; have BK285 := n5_; clear n5_; clear hb hbox hg; obtain ⟨Ao66, co66, eo66⟩ := Kd.R_slice HO282.out; subst eo66; have hnb67 := NB285_265.out; have hnc67 := NB265_285.out; have hnb68 := NB285_266.out; have hnc68 := NB266_285.out; have hnb69 := NB285_267.out; have hnc69 := NB267_285.out; have hcz70_0 := bc BK285 0; have hcz70_1 := bc BK285 1; have hcz70_2 := bc BK285 2; have hfz70_0 := bf BK285 0; have hfz70_1 := bf BK285 1; have hfz70_2 := bf BK285 2; have hcz71_0 := bc BK265 0; have hcz71_1 := bc BK265 1; have hcz71_2 := bc BK265 2; have hfz71_0 := bf BK265 0; have hfz71_1 := bf BK265 1; have hfz71_2 := bf BK265 2; have hnb72 := NB266_267.out; have hnc72 := NB267_266.out; have hcz73_0 := bc BK266 0; have hcz73_1 := bc BK266 1; have hcz73_2 := bc BK266 2; have hfz73_0 := bf BK266 0; have hfz73_1 := bf BK266 1; have hfz73_2 := bf BK266 2) | (refine gL (some 73) Try.func18 #[.agg #[.slice A0_0 l0_0.length c0_0, .bool a0_1, .int .i64 a0_2], .agg #[.int .i64 a2_0, .int .i64 a2_1, .bool a2_2]] ?_; (with_reducible refine (leap_Add.callsW kj27 _ _ l0_0 a0_1 a0_2 a2_0 a2_1 a2_2 t286 t289 t290 t291 _ ?side1 ?side2 A56.out).mono ?_); (case side1 => exact cb HR0_0 HB); (case side2 => exact HC0_0.out); rintro e w74 ⟨v287, rfl, ho0, hb⟩; refine ⟨_, rfl, ?_⟩; have n0_ := Aside0.mk (Kd.R_below (by (with_reducible repeat (first | apply Kd.R_alloc | apply Kd.R_drewN | apply Kd.R_drew)); exact (Kd.R_mono (Kd.R_far (p := ⟨gb285, 2, none⟩) (Kd.R_far (p := ⟨gb285, 1, none⟩) (Kd.R_far (p := ⟨gb285, 0, none⟩) (Kd.R_types HO282.out BK285.out (by decide)) (fun _ hk => hk.2) (.slice Ao66 t280.length co66)) (fun _ hk => hk.2) (.bool t283)) (fun _ hk => hk.2) (.int .i64 t284)) (fun _ h_ => h_.1))) hb); have n1_ := Aside0.mk (Kd.VW_lower (Kd.VW_mono (ok' := fun k_ => some k_ ≠ (.slice Ao66 t280.length co66 : Value).ownBlock ∧ k_ ≠ gb265 ∧ k_ ≠ gb266 ∧ k_ ≠ gb267 ∧ k_ ≠ gb285) ho0 (fun k_ hk_ => ⟨(Kd.fresh' (Kd.R_lt (by (with_reducible repeat (first | apply Kd.R_alloc | apply Kd.R_drewN | apply Kd.R_drew)); exact (Kd.R_mono (Kd.R_far (p := ⟨gb285, 2, none⟩) (Kd.R_far (p := ⟨gb285, 1, none⟩) (Kd.R_far (p := ⟨gb285, 0, none⟩) (Kd.R_types HO282.out BK285.out (by decide)) (fun _ hk => hk.2) (.slice Ao66 t280.length co66)) (fun _ hk => hk.2) (.bool t283)) (fun _ hk => hk.2) (.int .i64 t284)) (fun _ h_ => h_.1)))) k_ hk_), (Kd.freshB (g := gb265) (o := .cells #[.slice A0_0 l0_0.length c0_0, .bool a0_1, .int .i64 a0_2] 24 (0, 0)) (by (with_reducible repeat (first | refine blk_drewN ?_ _ | refine blk_drew ?_ | refine blk_alloc ?_ _)); refine blk_far ?_ NB265_285.out _; (with_reducible repeat (first | refine blk_drewN ?_ _ | refine blk_drew ?_ | refine blk_alloc ?_ _)); refine blk_far ?_ NB265_285.out _; (with_reducible repeat (first | refine blk_drewN ?_ _ | refine blk_drew ?_ | refine blk_alloc ?_ _)); refine blk_far ?_ NB265_285.out _; (with_reducible repeat (first | refine blk_drewN ?_ _ | refine blk_drew ?_ | refine blk_alloc ?_ _)); exact BK265.out) k_ hk_), (Kd.freshB (g := gb266) (o := .cells #[.int .i64 a2_0, .int .i64 a2_1, .bool a2_2] 26 (0, 0)) (by (with_reducible repeat (first | refine blk_drewN ?_ _ | refine blk_drew ?_ | refine blk_alloc ?_ _)); refine blk_far ?_ NB266_285.out _; (with_reducible repeat (first | refine blk_drewN ?_ _ | refine blk_drew ?_ | refine blk_alloc ?_ _)); refine blk_far ?_ NB266_285.out _; (with_reducible repeat (first | refine blk_drewN ?_ _ | refine blk_drew ?_ | refine blk_alloc ?_ _)); refine blk_far ?_ NB266_285.out _; (with_reducible repeat (first | refine blk_drewN ?_ _ | refine blk_drew ?_ | refine blk_alloc ?_ _)); exact BK266.out) k_ hk_), (Kd.freshB (g := gb267) (o := .cells #[.slice A3_0 l3_0.length c3_0, .bool a3_1, .int .i64 a3_2] 24 (0, 0)) (by (with_reducible repeat (first | refine blk_drewN ?_ _ | refine blk_drew ?_ | refine blk_alloc ?_ _)); refine blk_far ?_ NB267_285.out _; (with_reducible repeat (first | refine blk_drewN ?_ _ | refine blk_drew ?_ | refine blk_alloc ?_ _)); refine blk_far ?_ NB267_285.out _; (with_reducible repeat (first | refine blk_drewN ?_ _ | refine blk_drew ?_ | refine blk_alloc ?_ _)); refine blk_far ?_ NB267_285.out _; (with_reducible repeat (first | refine blk_drewN ?_ _ | refine blk_drew ?_ | refine blk_alloc ?_ _)); exact BK267.out) k_ hk_), (Kd.freshB (g := gb285) (o := .cells #[.slice Ao66 t280.length co66, .bool t283, .int .i64 t284] 24 (0, 0)) (by (with_reducible repeat (first | refine blk_drewN ?_ _ | refine blk_drew ?_ | refine blk_alloc ?_ _)); refine blk_put (cs := #[.slice Ao66 t280.length co66, .bool t283, .int .i64 0]) ?_ 2 _ rfl; (with_reducible repeat (first | refine blk_drewN ?_ _ | refine blk_drew ?_ | refine blk_alloc ?_ _)); refine blk_put (cs := #[.slice Ao66 t280.length co66, .bool false, .int .i64 0]) ?_ 1 _ rfl; (with_reducible repeat (first | refine blk_drewN ?_ _ | refine blk_drew ?_ | refine blk_alloc ?_ _)); refine blk_put (cs := #[.slice none 0 0, .bool false, .int .i64 0]) ?_ 0 _ rfl; (with_reducible repeat (first | refine blk_drewN ?_ _ | refine blk_drew ?_ | refine blk_alloc ?_ _)); exact BK285.out) k_ hk_)⟩)) (below_size (by repeat (first | (with_reducible first | exact HB.out | apply below_alloc | apply pw_below_drewN | apply below_drew1 | refine below_set ?_ GE265.out | refine below_set ?_ GE266.out | refine below_set ?_ GE267.out | refine below_set ?_ GE285.out) | exact HB.out)))); have n2_ := kf BK265 hb; have n3_ := kf BK266 hb; have n4_ := kf BK267 hb; have n5_ := Aside0.mk (blk_below (g := gb285) (o := .cells #[.slice Ao66 t280.length co66, .bool t283, .int .i64 t284] 24 (0, 0)) (by (with_reducible repeat (first | refine blk_drewN ?_ _ | refine blk_drew ?_ | refine blk_alloc ?_ _)); refine blk_put (cs := #[.slice Ao66 t280.length co66, .bool t283, .int .i64 0]) ?_ 2 _ rfl; (with_reducible repeat (first | refine blk_drewN ?_ _ | refine blk_drew ?_ | refine blk_alloc ?_ _)); refine blk_put (cs := #[.slice Ao66 t280.length co66, .bool false, .int .i64 0]) ?_ 1 _ rfl; (with_reducible repeat (first | refine blk_drewN ?_ _ | refine blk_drew ?_ | refine blk_alloc ?_ _)); refine blk_put (cs := #[.slice none 0 0, .bool false, .int .i64 0]) ?_ 0 _ rfl; (with_reducible repeat (first | refine blk_drewN ?_ _ | refine blk_drew ?_ | refine blk_alloc ?_ _)); exact BK285.out) hb); replace HB := bs HB hb; clear HO282; clear BK265; clear BK266; clear BK267; clear BK285; have HO282 := n0_; have HO288 := n1_; have BK265 := n2_; have BK266 := n3_; have BK267 := n4_; have BK285 := n5_; clear n0_ n1_ n2_ n3_ n4_ n5_; (try clear hb); (try clear hb2); (try clear hk); (try clear hi); (try clear ho0)) | (refine bx 15 #[.slice none 0 0, .bool false, .int .i64 0] 24 ?_; intro gb292 hg w75 hbox hb; have n1_ := Aside0.mk (Kd.VW_below (Kd.VW_elderB (by (with_reducible repeat (first | apply Kd.VW_alloc | apply Kd.VW_drewN | apply Kd.VW_drew)); exact HO288.out) gb292 (Nat.le_of_eq hg.symm)) hb); have n7_ := Aside0.mk (hbox); have GW292 := gw HB hg; have GE292 := gw HB hg; have NB265_292 := nl BK265 hg; have NB292_265 := nr BK265 hg; have NB266_292 := nl BK266 hg; have NB292_266 := nr BK266 hg; have NB267_292 := nl BK267 hg; have NB292_267 := nr BK267 hg; have NB285_292 := nl BK285 hg; have NB292_285 := nr BK285 hg; replace HO282 := rb HO282 hb; replace BK265 := kb BK265 hb; replace BK266 := kb BK266 hb; replace BK267 := kb BK267 hb; replace BK285 := kb BK285 hb; replace HB := bs HB hb; clear HO288; have HO288 := n1_; have BK292 := n7_; clear n1_ n7_; clear hb hbox hg; obtain ⟨Ao76, co76, eo76⟩ := Kd.VW_slice HO288.out; subst eo76; have hnb77 := NB292_265.out; have hnc77 := NB265_292.out; have hnb78 := NB292_266.out; have hnc78 := NB266_292.out; have hnb79 := NB292_267.out; have hnc79 := NB267_292.out; have hnb80 := NB292_285.out; have hnc80 := NB285_292.out; have hcz81_0 := bc BK292 0; have hcz81_1 := bc BK292 1; have hcz81_2 := bc BK292 2; have hfz81_0 := bf BK292 0; have hfz81_1 := bf BK292 1; have hfz81_2 := bf BK292 2; have hcz82_0 := bc BK265 0; have hcz82_1 := bc BK265 1; have hcz82_2 := bc BK265 2; have hfz82_0 := bf BK265 0; have hfz82_1 := bf BK265 1; have hfz82_2 := bf BK265 2; have hcz83_0 := bc BK266 0; have hcz83_1 := bc BK266 1; have hcz83_2 := bc BK266 2; have hfz83_0 := bf BK266 0; have hfz83_1 := bf BK266 1; have hfz83_2 := bf BK266 2) | (refine gL (some 79) Try.func19 #[.agg #[.slice A0_0 l0_0.length c0_0, .bool a0_1, .int .i64 a0_2], .agg #[.int .i64 a2_0, .int .i64 a2_1, .bool a2_2]] ?_; (with_reducible refine (epactref09_Add.calls kj27 _ _ l0_0 a0_1 a0_2 a2_0 a2_1 a2_2 t293 t296 t297 t298 _ ?side1 ?side2 A57.out).mono ?_); (case side1 => exact cb HR0_0 HB); (case side2 => exact HC0_0.out); rintro e w84 ⟨v294, rfl, ho0, hb⟩; refine ⟨_, rfl, ?_⟩; have n0_ := Aside0.mk (Kd.R_elder' (by (with_reducible repeat (first | apply Kd.R_alloc | apply Kd.R_drewN | apply Kd.R_drew)); exact (Kd.R_mono (Kd.R_far (p := ⟨gb292, 2, none⟩) (Kd.R_far (p := ⟨gb292, 1, none⟩) (Kd.R_far (p := ⟨gb292, 0, none⟩) (Kd.R_types HO282.out BK292.out (by decide)) (fun _ hk => hk.2) (.slice Ao76 t286.length co76)) (fun _ hk => hk.2) (.bool t289)) (fun _ hk => hk.2) (.int .i64 t290)) (fun _ h_ => h_.1))) (Kd.R_base ho0) hb); have n1_ := Aside0.mk (Kd.VW_elder' (by (with_reducible repeat (first | apply Kd.VW_alloc | apply Kd.VW_drewN | apply Kd.VW_drew)); exact (Kd.VW_mono (Kd.VW_far (p := ⟨gb292, 2, none⟩) (Kd.VW_far (p := ⟨gb292, 1, none⟩) (Kd.VW_far (p := ⟨gb292, 0, none⟩) (Kd.VW_mono HO288.out (fun k_ hk => (⟨hk, hk.2⟩ : _ ∧ k_ ≠ gb292))) (fun _ hk => hk.2) (.slice Ao76 t286.length co76)) (fun _ hk => hk.2) (.bool t289)) (fun _ hk => hk.2) (.int .i64 t290)) (fun _ h_ => h_.1))) (Kd.R_base ho0) hb); have n2_ := Aside0.mk (Kd.R_lower (Kd.R_newB (Kd.R_new' ho0 (Kd.R_lt (by (with_reducible repeat (first | apply Kd.R_alloc | apply Kd.R_drewN | apply Kd.R_drew)); exact (Kd.R_mono (Kd.R_far (p := ⟨gb292, 2, none⟩) (Kd.R_far (p := ⟨gb292, 1, none⟩) (Kd.R_far (p := ⟨gb292, 0, none⟩) (Kd.R_types HO282.out BK292.out (by decide)) (fun _ hk => hk.2) (.slice Ao76 t286.length co76)) (fun _ hk => hk.2) (.bool t289)) (fun _ hk => hk.2) (.int .i64 t290)) (fun _ h_ => h_.1))))) (g := gb266) (o := .cells #[.int .i64 a2_0, .int .i64 a2_1, .bool a2_2] 26 (0, 0)) (by (with_reducible repeat (first | refine blk_drewN ?_ _ | refine blk_drew ?_ | refine blk_alloc ?_ _)); refine blk_far ?_ NB266_292.out _; (with_reducible repeat (first | refine blk_drewN ?_ _ | refine blk_drew ?_ | refine blk_alloc ?_ _)); refine blk_far ?_ NB266_292.out _; (with_reducible repeat (first | refine blk_drewN ?_ _ | refine blk_drew ?_ | refine blk_alloc ?_ _)); refine blk_far ?_ NB266_292.out _; (with_reducible repeat (first | refine blk_drewN ?_ _ | refine blk_drew ?_ | refine blk_alloc ?_ _)); exact BK266.out)) (below_size (by repeat (first | (with_reducible first | exact HB.out | apply below_alloc | apply pw_below_drewN | apply below_drew1 | refine below_set ?_ GE265.out | refine below_set ?_ GE266.out | refine below_set ?_ GE267.out | refine below_set ?_ GE285.out | refine below_set ?_ GE292.out) | exact HB.out)))); have n3_ := kf BK265 hb; have n4_ := kf BK266 hb; have n5_ := kf BK267 hb; have n6_ := kf BK285 hb; have n7_ := Aside0.mk (blk_below (g := gb292) (o := .cells #[.slice Ao76 t286.length co76, .bool t289, .int .i64 t290] 24 (0, 0)) (by (with_reducible repeat (first | refine blk_drewN ?_ _ | refine blk_drew ?_ | refine blk_alloc ?_ _)); refine blk_put (cs := #[.slice Ao76 t286.length co76, .bool t289, .int .i64 0]) ?_ 2 _ rfl; (with_reducible repeat (first | refine blk_drewN ?_ _ | refine blk_drew ?_ | refine blk_alloc ?_ _)); refine blk_put (cs := #[.slice Ao76 t286.length co76, .bool false, .int .i64 0]) ?_ 1 _ rfl; (with_reducible repeat (first | refine blk_drewN ?_ _ | refine blk_drew ?_ | refine blk_alloc ?_ _)); refine blk_put (cs := #[.slice none 0 0, .bool false, .int .i64 0]) ?_ 0 _ rfl; (with_reducible repeat (first | refine blk_drewN ?_ _ | refine blk_drew ?_ | refine blk_alloc ?_ _)); exact BK292.out) hb); replace HB := bs HB hb; clear HO282; clear HO288; clear BK265; clear BK266; clear BK267; clear BK285; clear BK292; have HO282 := n0_; have HO288 := n1_; have HO295 := n2_; have BK265 := n3_; have BK266 := n4_; have BK267 := n5_; have BK285 := n6_; have BK292 := n7_; clear n0_ n1_ n2_ n3_ n4_ n5_ n6_ n7_; (try clear hb); (try clear hb2); (try clear hk); (try clear hi); (try clear ho0)) | (refine bx 17 #[.slice none 0 0, .bool false, .int .i64 0] 24 ?_; intro gb299 hg w85 hbox hb; have n1_ := Aside0.mk (Kd.VW_below (Kd.VW_elderB (by (with_reducible repeat (first | apply Kd.VW_alloc | apply Kd.VW_drewN | apply Kd.VW_drew)); exact HO288.out) gb299 (Nat.le_of_eq hg.symm)) hb); have n9_ := Aside0.mk (hbox); have GW299 := gw HB hg; have GE299 := gw HB hg; have NB265_299 := nl BK265 hg; have NB299_265 := nr BK265 hg; have NB266_299 := nl BK266 hg; have NB299_266 := nr BK266 hg; have NB267_299 := nl BK267 hg; have NB299_267 := nr BK267 hg; have NB285_299 := nl BK285 hg; have NB299_285 := nr BK285 hg; have NB292_299 := nl BK292 hg; have NB299_292 := nr BK292 hg; replace HO282 := rb HO282 hb; replace HO295 := rb HO295 hb; replace BK265 := kb BK265 hb; replace BK266 := kb BK266 hb; replace BK267 := kb BK267 hb; replace BK285 := kb BK285 hb; replace BK292 := kb BK292 hb; replace HB := bs HB hb; clear HO288; have HO288 := n1_; have BK299 := n9_; clear n1_ n9_; clear hb hbox hg; obtain ⟨Ao86, co86, eo86⟩ := Kd.R_slice HO295.out; subst eo86; have hnb87 := NB299_265.out; have hnc87 := NB265_299.out; have hnb88 := NB299_266.out; have hnc88 := NB266_299.out; have hnb89 := NB299_267.out; have hnc89 := NB267_299.out; have hnb90 := NB299_285.out; have hnc90 := NB285_299.out; have hnb91 := NB299_292.out; have hnc91 := NB292_299.out; have hcz92_0 := bc BK299 0; have hcz92_1 := bc BK299 1; have hcz92_2 := bc BK299 2; have hfz92_0 := bf BK299 0; have hfz92_1 := bf BK299 1; have hfz92_2 := bf BK299 2))
                (try simp only [Act.put, List.setIfInBounds_toArray, List.set_cons_zero, List.set_cons_succ])
                go_cut [90] (fun v90 wc => ∃ (kq : Nat) (x90_57 : Bool), v90 = .bool x90_57 ∧ Aside0 (epactlaw09_LeapTells.j2 kq a1 t268 x90_57 l0_0 a0_1 a0_2 t280 t283 t284 t286 t289 t290 = some r) ∧ Aside0 (kq ≤ kj27) ∧ Aside0 (Kd.R k26 26 wc w.heap.size (fun k_ => some k_ ≠ ((.slice Ao86 t293.length co86) : Value).ownBlock ∧ k_ ≠ gb266) (.slice Ao66 t280.length co66) t280) ∧ Aside0 (Kd.VW k26 26 wc w.heap.size (fun k_ => some k_ ≠ ((.slice Ao66 t280.length co66) : Value).ownBlock ∧ some k_ ≠ ((.slice Ao86 t293.length co86) : Value).ownBlock ∧ k_ ≠ gb265 ∧ k_ ≠ gb266 ∧ k_ ≠ gb267 ∧ k_ ≠ gb285 ∧ k_ ≠ gb292 ∧ k_ ≠ gb299) (.slice Ao76 t286.length co76) t286) ∧ Aside0 (Kd.R k26 26 wc w.heap.size (fun k_ => some k_ ≠ ((.slice Ao66 t280.length co66) : Value).ownBlock ∧ k_ ≠ gb266) (.slice Ao86 t293.length co86) t293) ∧ Aside0 (wc.heap[gb265]? = some (.cells #[(.slice A0_0 l0_0.length c0_0), .bool a0_1, .int .i64 a0_2] 24 (0, 0))) ∧ Aside0 (wc.heap[gb266]? = some (.cells #[.int .i64 a2_0, .int .i64 a2_1, .bool a2_2] 26 (0, 0))) ∧ Aside0 (wc.heap[gb267]? = some (.cells #[(.slice A3_0 l3_0.length c3_0), .bool a3_1, .int .i64 a3_2] 24 (0, 0))) ∧ Aside0 (wc.heap[gb285]? = some (.cells #[(.slice Ao66 t280.length co66), .bool t283, .int .i64 t284] 24 (0, 0))) ∧ Aside0 (wc.heap[gb292]? = some (.cells #[(.slice Ao76 t286.length co76), .bool t289, .int .i64 t290] 24 (0, 0))) ∧ Aside0 (wc.heap[gb299]? = some (.cells #[(.slice Ao86 t293.length co86), .bool t296, .int .i64 t297] 24 (0, 0))) ∧ Aside0 (Below w.heap.size w wc))
                case first =>
                  have H := HC58.out
                  clear HC58
                  replace H := Option.bind_eq_some_iff.mp H
                  obtain ⟨t300, A930, H⟩ := H
                  try dsimp only at H
                  have A93 := Aside0.mk A930
                  clear A930
                  by_cases c94 : t300 = true
                  · subst c94
                    rw [if_pos rfl] at H
                    have H' := Aside0.mk H
                    clear H
                    have hnb95 := NB292_265.out
                    have hnc95 := NB265_292.out
                    have hnb96 := NB292_266.out
                    have hnc96 := NB266_292.out
                    have hnb97 := NB292_267.out
                    have hnc97 := NB267_292.out
                    have hnb98 := NB292_285.out
                    have hnc98 := NB285_292.out
                    have hnb99 := NB292_299.out
                    have hnc99 := NB299_292.out
                    have hcz100_0 := bc BK292 0
                    have hcz100_1 := bc BK292 1
                    have hcz100_2 := bc BK292 2
                    have hfz100_0 := bf BK292 0
                    have hfz100_1 := bf BK292 1
                    have hfz100_2 := bf BK292 2
                    have hnb101 := NB299_265.out
                    have hnc101 := NB265_299.out
                    have hnb102 := NB299_266.out
                    have hnc102 := NB266_299.out
                    have hnb103 := NB299_267.out
                    have hnc103 := NB267_299.out
                    have hnb104 := NB299_285.out
                    have hnc104 := NB285_299.out
                    have hcz105_0 := bc BK299 0
                    have hcz105_1 := bc BK299 1
                    have hcz105_2 := bc BK299 2
                    have hfz105_0 := bf BK299 0
                    have hfz105_1 := bf BK299 1
                    have hfz105_2 := bf BK299 2
                    go_wp2_with (first | (refine gL (some 84) Try.func16 #[.agg #[.slice Ao76 t286.length co76, .bool t289, .int .i64 t290], .agg #[.slice Ao86 t293.length co86, .bool t296, .int .i64 t297]] ?_; (with_reducible refine (epactref09_Same.calls kj27 _ _ t286 t289 t290 _ _ t293 t296 t297 true _ ?side1 ?side2 ?side3 ?side4 A93.out).mono ?_); (case side1 => refine (Kd.VW_reads' (e := 26) (base := w.heap.size) (ok := fun k_ => ((((some k_ ≠ (.slice Ao66 t280.length co66 : Value).ownBlock ∧ (k_ ≠ gb265 ∧ (k_ ≠ gb266 ∧ (k_ ≠ gb267 ∧ k_ ≠ gb285)))) ∧ k_ ≠ gb292) ∧ some k_ ≠ (.slice Ao86 t293.length co86 : Value).ownBlock) ∧ k_ ≠ gb299)) (n := t286.length) (c := co76) ?_).2.2; exact (by (with_reducible repeat (first | apply Kd.VW_alloc | apply Kd.VW_drewN | apply Kd.VW_drew)); exact (Kd.VW_mono (Kd.VW_far (p := ⟨gb299, 2, none⟩) (Kd.VW_far (p := ⟨gb299, 1, none⟩) (Kd.VW_far (p := ⟨gb299, 0, none⟩) (Kd.VW_mono HO288.out (fun k_ hk => (⟨hk, hk.2⟩ : _ ∧ k_ ≠ gb299))) (fun _ hk => hk.2) (.slice Ao86 t293.length co86)) (fun _ hk => hk.2) (.bool t296)) (fun _ hk => hk.2) (.int .i64 t297)) (fun _ h_ => h_.1)))); (case side2 => exact (Kd.VW_reads' HO288.out).2.1); (case side3 => refine (Kd.R_reads' (e := 26) (base := w.heap.size) (ok := fun k_ => ((True ∧ some k_ ≠ (.slice Ao66 t280.length co66 : Value).ownBlock) ∧ k_ ≠ gb266)) (n := t293.length) (c := co86) ?_).2.2; exact (by (with_reducible repeat (first | apply Kd.R_alloc | apply Kd.R_drewN | apply Kd.R_drew)); exact (Kd.R_mono (Kd.R_far (p := ⟨gb299, 2, none⟩) (Kd.R_far (p := ⟨gb299, 1, none⟩) (Kd.R_far (p := ⟨gb299, 0, none⟩) (Kd.R_types HO295.out BK299.out (by decide)) (fun _ hk => hk.2) (.slice Ao86 t293.length co86)) (fun _ hk => hk.2) (.bool t296)) (fun _ hk => hk.2) (.int .i64 t297)) (fun _ h_ => h_.1)))); (case side4 => exact (Kd.R_reads' HO295.out).2.1); rintro e w106 ⟨rfl, hb⟩; refine ⟨_, rfl, ?_⟩; have n0_ := Aside0.mk (Kd.R_below (by (with_reducible repeat (first | apply Kd.R_alloc | apply Kd.R_drewN | apply Kd.R_drew)); exact (Kd.R_mono (Kd.R_far (p := ⟨gb299, 2, none⟩) (Kd.R_far (p := ⟨gb299, 1, none⟩) (Kd.R_far (p := ⟨gb299, 0, none⟩) (Kd.R_types HO282.out BK299.out (by decide)) (fun _ hk => hk.2) (.slice Ao86 t293.length co86)) (fun _ hk => hk.2) (.bool t296)) (fun _ hk => hk.2) (.int .i64 t297)) (fun _ h_ => h_.1))) hb); have n1_ := Aside0.mk (Kd.VW_below (by (with_reducible repeat (first | apply Kd.VW_alloc | apply Kd.VW_drewN | apply Kd.VW_drew)); exact (Kd.VW_mono (Kd.VW_far (p := ⟨gb299, 2, none⟩) (Kd.VW_far (p := ⟨gb299, 1, none⟩) (Kd.VW_far (p := ⟨gb299, 0, none⟩) (Kd.VW_mono HO288.out (fun k_ hk => (⟨hk, hk.2⟩ : _ ∧ k_ ≠ gb299))) (fun _ hk => hk.2) (.slice Ao86 t293.length co86)) (fun _ hk => hk.2) (.bool t296)) (fun _ hk => hk.2) (.int .i64 t297)) (fun _ h_ => h_.1))) hb); have n2_ := Aside0.mk (Kd.R_below (by (with_reducible repeat (first | apply Kd.R_alloc | apply Kd.R_drewN | apply Kd.R_drew)); exact (Kd.R_mono (Kd.R_far (p := ⟨gb299, 2, none⟩) (Kd.R_far (p := ⟨gb299, 1, none⟩) (Kd.R_far (p := ⟨gb299, 0, none⟩) (Kd.R_types HO295.out BK299.out (by decide)) (fun _ hk => hk.2) (.slice Ao86 t293.length co86)) (fun _ hk => hk.2) (.bool t296)) (fun _ hk => hk.2) (.int .i64 t297)) (fun _ h_ => h_.1))) hb); have n3_ := kf BK265 hb; have n4_ := kf BK266 hb; have n5_ := kf BK267 hb; have n6_ := kf BK285 hb; have n7_ := kf BK292 hb; have n8_ := Aside0.mk (blk_below (g := gb299) (o := .cells #[.slice Ao86 t293.length co86, .bool t296, .int .i64 t297] 24 (0, 0)) (by (with_reducible repeat (first | refine blk_drewN ?_ _ | refine blk_drew ?_ | refine blk_alloc ?_ _)); refine blk_put (cs := #[.slice Ao86 t293.length co86, .bool t296, .int .i64 0]) ?_ 2 _ rfl; (with_reducible repeat (first | refine blk_drewN ?_ _ | refine blk_drew ?_ | refine blk_alloc ?_ _)); refine blk_put (cs := #[.slice Ao86 t293.length co86, .bool false, .int .i64 0]) ?_ 1 _ rfl; (with_reducible repeat (first | refine blk_drewN ?_ _ | refine blk_drew ?_ | refine blk_alloc ?_ _)); refine blk_put (cs := #[.slice none 0 0, .bool false, .int .i64 0]) ?_ 0 _ rfl; (with_reducible repeat (first | refine blk_drewN ?_ _ | refine blk_drew ?_ | refine blk_alloc ?_ _)); exact BK299.out) hb); replace HB := bs HB hb; clear HO282; clear HO288; clear HO295; clear BK265; clear BK266; clear BK267; clear BK285; clear BK292; clear BK299; have HO282 := n0_; have HO288 := n1_; have HO295 := n2_; have BK265 := n3_; have BK266 := n4_; have BK267 := n5_; have BK285 := n6_; have BK292 := n7_; have BK299 := n8_; clear n0_ n1_ n2_ n3_ n4_ n5_ n6_ n7_ n8_; (try clear hb); (try clear hb2); (try clear hk); (try clear hi)))
                    go_meet
                    case rel => exact ⟨_, ((t291 != t298)), (by first | rfl | (simp; done) | (simp [*]; done)), H', ⟨by have := HJ5.out; have := HJ27.out; first | omega | exact Nat.le_refl _⟩, ⟨by (with_reducible repeat (first | apply Kd.R_alloc | apply Kd.R_drewN | apply Kd.R_drew)); exact Kd.R_mono HO282.out (fun _ hk => ⟨hk.2, hk.1.2⟩)⟩, ⟨by (with_reducible repeat (first | apply Kd.VW_alloc | apply Kd.VW_drewN | apply Kd.VW_drew)); exact Kd.VW_mono HO288.out (fun _ hk => ⟨hk.1.1.1.1, ⟨hk.1.2, ⟨hk.1.1.1.2.1, ⟨hk.1.1.1.2.2.1, ⟨hk.1.1.1.2.2.2.1, ⟨hk.1.1.1.2.2.2.2, ⟨hk.1.1.2, hk.2⟩⟩⟩⟩⟩⟩⟩)⟩, ⟨by (with_reducible repeat (first | apply Kd.R_alloc | apply Kd.R_drewN | apply Kd.R_drew)); exact Kd.R_mono HO295.out (fun _ hk => ⟨hk.1.2, hk.2⟩)⟩, ka BK265, ka BK266, ka BK267, ka BK285, ka BK292, ka BK299, ba HB⟩
                  · replace c94 := Bool.eq_false_iff.mpr c94
                    subst c94
                    rw [if_neg (show ¬ (false = true) by decide)] at H
                    have H' := Aside0.mk H
                    clear H
                    have hnb107 := NB292_265.out
                    have hnc107 := NB265_292.out
                    have hnb108 := NB292_266.out
                    have hnc108 := NB266_292.out
                    have hnb109 := NB292_267.out
                    have hnc109 := NB267_292.out
                    have hnb110 := NB292_285.out
                    have hnc110 := NB285_292.out
                    have hnb111 := NB292_299.out
                    have hnc111 := NB299_292.out
                    have hcz112_0 := bc BK292 0
                    have hcz112_1 := bc BK292 1
                    have hcz112_2 := bc BK292 2
                    have hfz112_0 := bf BK292 0
                    have hfz112_1 := bf BK292 1
                    have hfz112_2 := bf BK292 2
                    have hnb113 := NB299_265.out
                    have hnc113 := NB265_299.out
                    have hnb114 := NB299_266.out
                    have hnc114 := NB266_299.out
                    have hnb115 := NB299_267.out
                    have hnc115 := NB267_299.out
                    have hnb116 := NB299_285.out
                    have hnc116 := NB285_299.out
                    have hcz117_0 := bc BK299 0
                    have hcz117_1 := bc BK299 1
                    have hcz117_2 := bc BK299 2
                    have hfz117_0 := bf BK299 0
                    have hfz117_1 := bf BK299 1
                    have hfz117_2 := bf BK299 2
                    go_wp2_with (first | (refine gL (some 84) Try.func16 #[.agg #[.slice Ao76 t286.length co76, .bool t289, .int .i64 t290], .agg #[.slice Ao86 t293.length co86, .bool t296, .int .i64 t297]] ?_; (with_reducible refine (epactref09_Same.calls kj27 _ _ t286 t289 t290 _ _ t293 t296 t297 false _ ?side1 ?side2 ?side3 ?side4 A93.out).mono ?_); (case side1 => refine (Kd.VW_reads' (e := 26) (base := w.heap.size) (ok := fun k_ => ((((some k_ ≠ (.slice Ao66 t280.length co66 : Value).ownBlock ∧ (k_ ≠ gb265 ∧ (k_ ≠ gb266 ∧ (k_ ≠ gb267 ∧ k_ ≠ gb285)))) ∧ k_ ≠ gb292) ∧ some k_ ≠ (.slice Ao86 t293.length co86 : Value).ownBlock) ∧ k_ ≠ gb299)) (n := t286.length) (c := co76) ?_).2.2; exact (by (with_reducible repeat (first | apply Kd.VW_alloc | apply Kd.VW_drewN | apply Kd.VW_drew)); exact (Kd.VW_mono (Kd.VW_far (p := ⟨gb299, 2, none⟩) (Kd.VW_far (p := ⟨gb299, 1, none⟩) (Kd.VW_far (p := ⟨gb299, 0, none⟩) (Kd.VW_mono HO288.out (fun k_ hk => (⟨hk, hk.2⟩ : _ ∧ k_ ≠ gb299))) (fun _ hk => hk.2) (.slice Ao86 t293.length co86)) (fun _ hk => hk.2) (.bool t296)) (fun _ hk => hk.2) (.int .i64 t297)) (fun _ h_ => h_.1)))); (case side2 => exact (Kd.VW_reads' HO288.out).2.1); (case side3 => refine (Kd.R_reads' (e := 26) (base := w.heap.size) (ok := fun k_ => ((True ∧ some k_ ≠ (.slice Ao66 t280.length co66 : Value).ownBlock) ∧ k_ ≠ gb266)) (n := t293.length) (c := co86) ?_).2.2; exact (by (with_reducible repeat (first | apply Kd.R_alloc | apply Kd.R_drewN | apply Kd.R_drew)); exact (Kd.R_mono (Kd.R_far (p := ⟨gb299, 2, none⟩) (Kd.R_far (p := ⟨gb299, 1, none⟩) (Kd.R_far (p := ⟨gb299, 0, none⟩) (Kd.R_types HO295.out BK299.out (by decide)) (fun _ hk => hk.2) (.slice Ao86 t293.length co86)) (fun _ hk => hk.2) (.bool t296)) (fun _ hk => hk.2) (.int .i64 t297)) (fun _ h_ => h_.1)))); (case side4 => exact (Kd.R_reads' HO295.out).2.1); rintro e w118 ⟨rfl, hb⟩; refine ⟨_, rfl, ?_⟩; have n0_ := Aside0.mk (Kd.R_below (by (with_reducible repeat (first | apply Kd.R_alloc | apply Kd.R_drewN | apply Kd.R_drew)); exact (Kd.R_mono (Kd.R_far (p := ⟨gb299, 2, none⟩) (Kd.R_far (p := ⟨gb299, 1, none⟩) (Kd.R_far (p := ⟨gb299, 0, none⟩) (Kd.R_types HO282.out BK299.out (by decide)) (fun _ hk => hk.2) (.slice Ao86 t293.length co86)) (fun _ hk => hk.2) (.bool t296)) (fun _ hk => hk.2) (.int .i64 t297)) (fun _ h_ => h_.1))) hb); have n1_ := Aside0.mk (Kd.VW_below (by (with_reducible repeat (first | apply Kd.VW_alloc | apply Kd.VW_drewN | apply Kd.VW_drew)); exact (Kd.VW_mono (Kd.VW_far (p := ⟨gb299, 2, none⟩) (Kd.VW_far (p := ⟨gb299, 1, none⟩) (Kd.VW_far (p := ⟨gb299, 0, none⟩) (Kd.VW_mono HO288.out (fun k_ hk => (⟨hk, hk.2⟩ : _ ∧ k_ ≠ gb299))) (fun _ hk => hk.2) (.slice Ao86 t293.length co86)) (fun _ hk => hk.2) (.bool t296)) (fun _ hk => hk.2) (.int .i64 t297)) (fun _ h_ => h_.1))) hb); have n2_ := Aside0.mk (Kd.R_below (by (with_reducible repeat (first | apply Kd.R_alloc | apply Kd.R_drewN | apply Kd.R_drew)); exact (Kd.R_mono (Kd.R_far (p := ⟨gb299, 2, none⟩) (Kd.R_far (p := ⟨gb299, 1, none⟩) (Kd.R_far (p := ⟨gb299, 0, none⟩) (Kd.R_types HO295.out BK299.out (by decide)) (fun _ hk => hk.2) (.slice Ao86 t293.length co86)) (fun _ hk => hk.2) (.bool t296)) (fun _ hk => hk.2) (.int .i64 t297)) (fun _ h_ => h_.1))) hb); have n3_ := kf BK265 hb; have n4_ := kf BK266 hb; have n5_ := kf BK267 hb; have n6_ := kf BK285 hb; have n7_ := kf BK292 hb; have n8_ := Aside0.mk (blk_below (g := gb299) (o := .cells #[.slice Ao86 t293.length co86, .bool t296, .int .i64 t297] 24 (0, 0)) (by (with_reducible repeat (first | refine blk_drewN ?_ _ | refine blk_drew ?_ | refine blk_alloc ?_ _)); refine blk_put (cs := #[.slice Ao86 t293.length co86, .bool t296, .int .i64 0]) ?_ 2 _ rfl; (with_reducible repeat (first | refine blk_drewN ?_ _ | refine blk_drew ?_ | refine blk_alloc ?_ _)); refine blk_put (cs := #[.slice Ao86 t293.length co86, .bool false, .int .i64 0]) ?_ 1 _ rfl; (with_reducible repeat (first | refine blk_drewN ?_ _ | refine blk_drew ?_ | refine blk_alloc ?_ _)); refine blk_put (cs := #[.slice none 0 0, .bool false, .int .i64 0]) ?_ 0 _ rfl; (with_reducible repeat (first | refine blk_drewN ?_ _ | refine blk_drew ?_ | refine blk_alloc ?_ _)); exact BK299.out) hb); replace HB := bs HB hb; clear HO282; clear HO288; clear HO295; clear BK265; clear BK266; clear BK267; clear BK285; clear BK292; clear BK299; have HO282 := n0_; have HO288 := n1_; have HO295 := n2_; have BK265 := n3_; have BK266 := n4_; have BK267 := n5_; have BK285 := n6_; have BK292 := n7_; have BK299 := n8_; clear n0_ n1_ n2_ n3_ n4_ n5_ n6_ n7_ n8_; (try clear hb); (try clear hb2); (try clear hk); (try clear hi)))
                    go_meet
                    case rel => exact ⟨_, (true), (by first | rfl | (simp; done) | (simp [*]; done)), H', ⟨by have := HJ5.out; have := HJ27.out; first | omega | exact Nat.le_refl _⟩, ⟨by (with_reducible repeat (first | apply Kd.R_alloc | apply Kd.R_drewN | apply Kd.R_drew)); exact Kd.R_mono HO282.out (fun _ hk => ⟨hk.2, hk.1.2⟩)⟩, ⟨by (with_reducible repeat (first | apply Kd.VW_alloc | apply Kd.VW_drewN | apply Kd.VW_drew)); exact Kd.VW_mono HO288.out (fun _ hk => ⟨hk.1.1.1.1, ⟨hk.1.2, ⟨hk.1.1.1.2.1, ⟨hk.1.1.1.2.2.1, ⟨hk.1.1.1.2.2.2.1, ⟨hk.1.1.1.2.2.2.2, ⟨hk.1.1.2, hk.2⟩⟩⟩⟩⟩⟩⟩)⟩, ⟨by (with_reducible repeat (first | apply Kd.R_alloc | apply Kd.R_drewN | apply Kd.R_drew)); exact Kd.R_mono HO295.out (fun _ hk => ⟨hk.1.2, hk.2⟩)⟩, ka BK265, ka BK266, ka BK267, ka BK285, ka BK292, ka BK299, ba HB⟩
                case rest =>
                  clear HC58
                  try clear c1
                  try clear p2
                  try clear c3
                  try clear c5
                  try clear c6
                  try clear c7
                  try clear c8
                  try clear c9
                  try clear c10
                  try clear c11
                  try clear c13
                  try clear c14
                  try clear c15
                  try clear c16
                  try clear c17
                  try clear c18
                  try clear c19
                  try clear c35
                  try clear c35b0
                  try clear c35b1
                  try clear c36
                  try clear c36b0
                  try clear c36b1
                  try clear c52
                  try clear c54
                  try clear c59
                  try clear c60
                  try clear c67
                  try clear c68
                  try clear c69
                  try clear c72
                  try clear c77
                  try clear c78
                  try clear c79
                  try clear c80
                  try clear c87
                  try clear c88
                  try clear c89
                  try clear c90
                  try clear c91
                  try clear c94
                  try clear c95
                  try clear c96
                  try clear c97
                  try clear c98
                  try clear c99
                  try clear c101
                  try clear c102
                  try clear c103
                  try clear c104
                  try clear c107
                  try clear c108
                  try clear c109
                  try clear c110
                  try clear c111
                  try clear c113
                  try clear c114
                  try clear c115
                  try clear c116
                  try clear hcz100_0
                  try clear hcz100_1
                  try clear hcz100_2
                  try clear hcz105_0
                  try clear hcz105_1
                  try clear hcz105_2
                  try clear hcz112_0
                  try clear hcz112_1
                  try clear hcz112_2
                  try clear hcz117_0
                  try clear hcz117_1
                  try clear hcz117_2
                  try clear hcz61_0
                  try clear hcz61_1
                  try clear hcz61_2
                  try clear hcz63_0
                  try clear hcz63_1
                  try clear hcz63_2
                  try clear hcz70_0
                  try clear hcz70_1
                  try clear hcz70_2
                  try clear hcz71_0
                  try clear hcz71_1
                  try clear hcz71_2
                  try clear hcz73_0
                  try clear hcz73_1
                  try clear hcz73_2
                  try clear hcz81_0
                  try clear hcz81_1
                  try clear hcz81_2
                  try clear hcz82_0
                  try clear hcz82_1
                  try clear hcz82_2
                  try clear hcz83_0
                  try clear hcz83_1
                  try clear hcz83_2
                  try clear hcz92_0
                  try clear hcz92_1
                  try clear hcz92_2
                  try clear hfz100_0
                  try clear hfz100_1
                  try clear hfz100_2
                  try clear hfz105_0
                  try clear hfz105_1
                  try clear hfz105_2
                  try clear hfz112_0
                  try clear hfz112_1
                  try clear hfz112_2
                  try clear hfz117_0
                  try clear hfz117_1
                  try clear hfz117_2
                  try clear hfz61_0
                  try clear hfz61_1
                  try clear hfz61_2
                  try clear hfz63_0
                  try clear hfz63_1
                  try clear hfz63_2
                  try clear hfz70_0
                  try clear hfz70_1
                  try clear hfz70_2
                  try clear hfz71_0
                  try clear hfz71_1
                  try clear hfz71_2
                  try clear hfz73_0
                  try clear hfz73_1
                  try clear hfz73_2
                  try clear hfz81_0
                  try clear hfz81_1
                  try clear hfz81_2
                  try clear hfz82_0
                  try clear hfz82_1
                  try clear hfz82_2
                  try clear hfz83_0
                  try clear hfz83_1
                  try clear hfz83_2
                  try clear hfz92_0
                  try clear hfz92_1
                  try clear hfz92_2
                  try clear p2
                  obtain ⟨kq, x90_57, rfl, HA, HJ57, HO_286000, HO_293000, HO_300000, BK265, BK266, BK267, BK285, BK292, BK299, HB⟩ := hcut
                  cases kq with
                  | zero => exact absurd HA.out (by simp [epactlaw09_LeapTells.j2])
                  | succ kj57 =>
                    have H := HA.out
                    clear HA
                    simp only [epactlaw09_LeapTells.j2] at H
                    by_cases c119 : x90_57 = true
                    · subst c119
                      rw [if_pos rfl] at H
                      exact absurd H (by simp)
                    · replace c119 := Bool.eq_false_iff.mpr c119
                      subst c119
                      rw [if_neg (show ¬ (false = true) by decide)] at H
                      have H' := Aside0.mk H
                      clear H
                      go_wp2
                      go_loopg [19] kj57 (fun kq v19 w' => ∃ (x19_4 : Int) (x267000_4 : Int) (x286000_4 : List (S26)) (x293000_4 : List (S26)) (x300000_4 : List (S26)) (u286000 : Value) (u293000 : Value) (u300000 : Value), v19 = .int .i64 x19_4 ∧ Aside0 (epactlaw09_LeapTells.l0 kq a1 t268 x19_4 l0_0 a0_1 a0_2 x286000_4 t283 t284 x293000_4 t289 t290 = some r) ∧ Aside0 (kq ≤ kj57) ∧ Aside0 (Kd.R k26 26 w' w.heap.size (fun k_ => some k_ ≠ (u300000 : Value).ownBlock ∧ k_ ≠ gb266) u286000 x286000_4) ∧ Aside0 (Kd.VW k26 26 w' w.heap.size (fun k_ => some k_ ≠ (u286000 : Value).ownBlock ∧ some k_ ≠ (u300000 : Value).ownBlock ∧ k_ ≠ gb265 ∧ k_ ≠ gb266 ∧ k_ ≠ gb267 ∧ k_ ≠ gb285 ∧ k_ ≠ gb292 ∧ k_ ≠ gb299) u293000 x293000_4) ∧ Aside0 (Kd.R k26 26 w' w.heap.size (fun k_ => some k_ ≠ (u286000 : Value).ownBlock ∧ k_ ≠ gb266) u300000 x300000_4) ∧ Aside0 (w'.heap[gb265]? = some (.cells #[(.slice A0_0 l0_0.length c0_0), .bool a0_1, .int .i64 a0_2] 24 (0, 0))) ∧ Aside0 (w'.heap[gb266]? = some (.cells #[.int .i64 x267000_4, .int .i64 a2_1, .bool a2_2] 26 (0, 0))) ∧ Aside0 (w'.heap[gb267]? = some (.cells #[(.slice A3_0 l3_0.length c3_0), .bool a3_1, .int .i64 a3_2] 24 (0, 0))) ∧ Aside0 (w'.heap[gb285]? = some (.cells #[u286000, .bool t283, .int .i64 t284] 24 (0, 0))) ∧ Aside0 (w'.heap[gb292]? = some (.cells #[u293000, .bool t289, .int .i64 t290] 24 (0, 0))) ∧ Aside0 (w'.heap[gb299]? = some (.cells #[u300000, .bool t296, .int .i64 t297] 24 (0, 0))) ∧ Aside0 (Below w.heap.size w w'))
                      case atStart => exact ⟨(0), (a2_0), (t280), (t286), (t293), (.slice Ao66 t280.length co66), (.slice Ao76 t286.length co76), (.slice Ao86 t293.length co86), (by first | rfl | (simp; done) | (simp [*]; done)), H', ⟨Nat.le_refl _⟩, ra HO_286000, ⟨by (with_reducible repeat (first | apply Kd.VW_alloc | apply Kd.VW_drewN | apply Kd.VW_drew)); exact HO_293000.out⟩, ra HO_300000, ka BK265, ka BK266, ka BK267, ka BK285, ka BK292, ka BK299, ba HB⟩
                      case round =>
                        clear H'
                        try clear c1
                        try clear p2
                        try clear c3
                        try clear c5
                        try clear c6
                        try clear c7
                        try clear c8
                        try clear c9
                        try clear c10
                        try clear c11
                        try clear c13
                        try clear c14
                        try clear c15
                        try clear c16
                        try clear c17
                        try clear c18
                        try clear c19
                        try clear c35
                        try clear c35b0
                        try clear c35b1
                        try clear c36
                        try clear c36b0
                        try clear c36b1
                        try clear c52
                        try clear c54
                        try clear c59
                        try clear c60
                        try clear c67
                        try clear c68
                        try clear c69
                        try clear c72
                        try clear c77
                        try clear c78
                        try clear c79
                        try clear c80
                        try clear c87
                        try clear c88
                        try clear c89
                        try clear c90
                        try clear c91
                        try clear c94
                        try clear c95
                        try clear c96
                        try clear c97
                        try clear c98
                        try clear c99
                        try clear c101
                        try clear c102
                        try clear c103
                        try clear c104
                        try clear c107
                        try clear c108
                        try clear c109
                        try clear c110
                        try clear c111
                        try clear c113
                        try clear c114
                        try clear c115
                        try clear c116
                        try clear c119
                        try clear hcz100_0
                        try clear hcz100_1
                        try clear hcz100_2
                        try clear hcz105_0
                        try clear hcz105_1
                        try clear hcz105_2
                        try clear hcz112_0
                        try clear hcz112_1
                        try clear hcz112_2
                        try clear hcz117_0
                        try clear hcz117_1
                        try clear hcz117_2
                        try clear hcz61_0
                        try clear hcz61_1
                        try clear hcz61_2
                        try clear hcz63_0
                        try clear hcz63_1
                        try clear hcz63_2
                        try clear hcz70_0
                        try clear hcz70_1
                        try clear hcz70_2
                        try clear hcz71_0
                        try clear hcz71_1
                        try clear hcz71_2
                        try clear hcz73_0
                        try clear hcz73_1
                        try clear hcz73_2
                        try clear hcz81_0
                        try clear hcz81_1
                        try clear hcz81_2
                        try clear hcz82_0
                        try clear hcz82_1
                        try clear hcz82_2
                        try clear hcz83_0
                        try clear hcz83_1
                        try clear hcz83_2
                        try clear hcz92_0
                        try clear hcz92_1
                        try clear hcz92_2
                        try clear hfz100_0
                        try clear hfz100_1
                        try clear hfz100_2
                        try clear hfz105_0
                        try clear hfz105_1
                        try clear hfz105_2
                        try clear hfz112_0
                        try clear hfz112_1
                        try clear hfz112_2
                        try clear hfz117_0
                        try clear hfz117_1
                        try clear hfz117_2
                        try clear hfz61_0
                        try clear hfz61_1
                        try clear hfz61_2
                        try clear hfz63_0
                        try clear hfz63_1
                        try clear hfz63_2
                        try clear hfz70_0
                        try clear hfz70_1
                        try clear hfz70_2
                        try clear hfz71_0
                        try clear hfz71_1
                        try clear hfz71_2
                        try clear hfz73_0
                        try clear hfz73_1
                        try clear hfz73_2
                        try clear hfz81_0
                        try clear hfz81_1
                        try clear hfz81_2
                        try clear hfz82_0
                        try clear hfz82_1
                        try clear hfz82_2
                        try clear hfz83_0
                        try clear hfz83_1
                        try clear hfz83_2
                        try clear hfz92_0
                        try clear hfz92_1
                        try clear hfz92_2
                        try clear p2
                        obtain ⟨x19_4, x267000_4, x286000_4, x293000_4, x300000_4, u286000, u293000, u300000, rfl, HA, HK4, HO_286000, HO_293000, HO_300000, BK265, BK266, BK267, BK285, BK292, BK299, HB⟩ := hrel
                        cases gk with
                        | zero => exact absurd HA.out (by simp [epactlaw09_LeapTells.l0])
                        | succ k4 =>
                          have H := HA.out
                          clear HA
                          simp only [epactlaw09_LeapTells.l0] at H
                          by_cases c120 : x19_4 < (x293000_4.length : Int)
                          · rw [if_pos c120] at H
                            have c120b0 : decide (x19_4 < (x293000_4.length : Int)) = true := decide_eq_true c120
                            clear c120
                            by_cases c121 : 0 ≤ x19_4
                            · rw [if_pos c121] at H
                              have c121b0 : decide (0 ≤ x19_4) = true := decide_eq_true c121
                              clear c121
                              obtain ⟨y301, hy301⟩ : ∃ y_ : List (S26), y_ = (x293000_4.set (x19_4 : Int).toNat (⟨77, (rd_T26 x293000_4 x19_4).f1, (rd_T26 x293000_4 x19_4).f2⟩ : S26)) := ⟨_, rfl⟩
                              replace H : (epactlaw09_LeapTells.l0 k4 a1 t268 (wrap64 (x19_4 + 1)) l0_0 a0_1 a0_2 x286000_4 t283 t284 y301 t289 t290) = some r := by first | (rw [hy301]; with_reducible exact H) | (have H2_ := (Option.bind_some _ _).symm.trans H; rw [hy301]; with_reducible exact H2_) | (have H2_ := (Option.bind_some _ _).symm.trans H; with_reducible exact H2_) | with_reducible exact H | (rw [hy301]; exact H) | exact H
                              have Ny301 := Aside0.mk hy301
                              clear hy301
                              have H' := Aside0.mk H
                              clear H
                              have hnb123 := NB292_265.out
                              have hnc123 := NB265_292.out
                              have hnb124 := NB292_266.out
                              have hnc124 := NB266_292.out
                              have hnb125 := NB292_267.out
                              have hnc125 := NB267_292.out
                              have hnb126 := NB292_285.out
                              have hnc126 := NB285_292.out
                              have hnb127 := NB292_299.out
                              have hnc127 := NB299_292.out
                              have hcz128_0 := bc BK292 0
                              have hcz128_1 := bc BK292 1
                              have hcz128_2 := bc BK292 2
                              have hfz128_0 := bf BK292 0
                              have hfz128_1 := bf BK292 1
                              have hfz128_2 := bf BK292 2
                              obtain ⟨Ao129, co129, eo129⟩ := Kd.VW_slice HO_293000.out
                              subst eo129
                              have p122 : 0 ≤ (x19_4 : Int) := pa
                              have q122 : (x19_4 : Int) < ((x293000_4.length : Int) : Int) := pa
                              obtain ⟨go122, co122, eo122, gb122, gl122, cl122, HG122⟩ := Kd.VW_form HO_293000.out (by omega)
                              (first | cases eo122 | (injection eo122 with ea_ en_ ec_; (first | subst ea_ | (injection ea_ with ea_; subst ea_)); subst ec_; clear en_))
                              have GB122 := Aside0.mk gb122
                              have GG122 := Aside0.mk HG122
                              clear gb122 gl122 HG122
                              obtain ⟨ce122, hcl122, hM122, hcc122, hfr122⟩ := Kd.VW_elem HO_293000.out z26 (x19_4 : Int) p122 q122
                              obtain rfl := k26_openM hM122
                              have hx122_0 : wr.cell? ⟨go122, (x19_4 : Int).toNat * 3, none⟩ = some (.int .i64 ((rd_T26 x293000_4 x19_4).f0)) := hcc122 0 _ rfl
                              have hx122_1 : wr.cell? ⟨go122, (x19_4 : Int).toNat * 3 + 1, none⟩ = some (.int .i64 ((rd_T26 x293000_4 x19_4).f1)) := hcc122 1 _ rfl
                              have hx122_2 : wr.cell? ⟨go122, (x19_4 : Int).toNat * 3 + 2, none⟩ = some (.bool ((rd_T26 x293000_4 x19_4).f2)) := hcc122 2 _ rfl
                              have hf122_0 : wr.frozen? ⟨go122, (x19_4 : Int).toNat * 3, none⟩ = false := hfr122 0
                              have hf122_1 : wr.frozen? ⟨go122, (x19_4 : Int).toNat * 3 + 1, none⟩ = false := hfr122 1
                              have hf122_2 : wr.frozen? ⟨go122, (x19_4 : Int).toNat * 3 + 2, none⟩ = false := hfr122 2
                              clear hcl122 hcc122 hfr122 hM122
                              replace p122 := eq_true p122
                              replace q122 := eq_true q122
                              have HX130 := Aside0.mk (show Kd.VW k26 26 wr w.heap.size (fun k_ => some k_ ≠ (u286000 : Value).ownBlock ∧ some k_ ≠ (u300000 : Value).ownBlock ∧ k_ ≠ gb265 ∧ k_ ≠ gb266 ∧ k_ ≠ gb267 ∧ k_ ≠ gb285 ∧ k_ ≠ gb292 ∧ k_ ≠ gb299) (.slice (some ⟨go122, 0, none⟩) x293000_4.length co129) x293000_4 from (by (with_reducible repeat (first | apply Kd.VW_alloc | apply Kd.VW_drewN | apply Kd.VW_drew)); exact HO_293000.out))
                              obtain ⟨ce130, hcl130, hM130, hcc130, hfr130⟩ := Kd.VW_elem HX130.out z26 (x19_4 : Int) (pa) (by have h_ : (x19_4 : Int) < ((x293000_4.length : Int) : Int) := pa; first | exact h_ | (have e_ := (Kd.VW_reads' HO_293000.out).1; omega) | simpa using h_)
                              obtain rfl := k26_openM hM130
                              have HP130 := Kd.VW_seg HX130.out (x19_4 : Int) (pa) (by have h_ : (x19_4 : Int) < ((x293000_4.length : Int) : Int) := pa; first | exact h_ | (have e_ := (Kd.VW_reads' HO_293000.out).1; omega) | simpa using h_) (seg := [.int .i64 77]) (j := 0) hcl130 hcc130 (show 1 ≤ 3 from by decide) (x' := (⟨77, (rd_T26 x293000_4 x19_4).f1, (rd_T26 x293000_4 x19_4).f2⟩ : S26)) (k26_mkM _ _ _ (⟨77, (rd_T26 x293000_4 x19_4).f1, (rd_T26 x293000_4 x19_4).f2⟩ : S26) ) (fun _ hk => hk)
                              have hx130_0 := hcc130 0 _ rfl
                              (try simp only [show (k26).sz = 3 from rfl, Nat.mul_one, Nat.add_zero] at hx130_0)
                              have hf130_0 := hfr130 0
                              (try simp only [show (k26).sz = 3 from rfl, Nat.mul_one, Nat.add_zero] at hf130_0)
                              clear hcl130 hcc130 hfr130 hM130
                              go_wp2_with (first | ((with_reducible refine gate_store (t := 3) (p := 102) rfl ?_); refine store_event (t := 3) (p := 102) (v := ?vo_w131) (w1 := (wr.setCell ⟨go122, (x19_4 : Int).toNat * 3, none⟩ (.int .i64 77))) ?hg ?ho ?hn ?hr ?_; (case ho => rfl); (case hg => rfl); (case hn => rfl); (case hr => first | (go_simp; done) | (go_simp; rfl)); intro w131 hw; have hg : wr.grownBy w131 (some go122) := (by rw [hw]; exact HP130.2); have hp_ : Kd.VW k26 26 w131 w.heap.size (fun k_ => some k_ ≠ (u286000 : Value).ownBlock ∧ some k_ ≠ (u300000 : Value).ownBlock ∧ k_ ≠ gb265 ∧ k_ ≠ gb266 ∧ k_ ≠ gb267 ∧ k_ ≠ gb285 ∧ k_ ≠ gb292 ∧ k_ ≠ gb299) (.slice (some ⟨go122, 0, none⟩) x293000_4.length co129) y301 := (by rw [hw, Ny301.out]; exact HP130.1); clear HP130; have n0_ := Aside0.mk (k26_other (v := (.slice (some ⟨go122, 0, none⟩) x293000_4.length co129)) (by (with_reducible repeat (first | apply Kd.R_alloc | apply Kd.R_drewN | apply Kd.R_drew)); exact HO_286000.out) HO_293000.out (fun k_ hk_ => by first | exact hk_.1 | exact hk_.2.1) hg); have n1_ := Aside0.mk (hp_); have n2_ := Aside0.mk (k26_other (v := (.slice (some ⟨go122, 0, none⟩) x293000_4.length co129)) (by (with_reducible repeat (first | apply Kd.R_alloc | apply Kd.R_drewN | apply Kd.R_drew)); exact HO_300000.out) HO_293000.out (fun k_ hk_ => by first | exact hk_.1 | exact hk_.2.1) hg); have n3_ := Aside0.mk (blk_grown (g := gb265) (o := .cells #[.slice A0_0 l0_0.length c0_0, .bool a0_1, .int .i64 a0_2] 24 (0, 0)) (ka BK265).out hg (Kd.VW_ne HO_293000.out BK265.out (by decide))); have n4_ := Aside0.mk (blk_grown (g := gb266) (o := .cells #[.int .i64 x267000_4, .int .i64 a2_1, .bool a2_2] 26 (0, 0)) (ka BK266).out hg (Kd.VW_away HO_293000.out (fun _ hk => hk.2.2.2.1))); have n5_ := Aside0.mk (blk_grown (g := gb267) (o := .cells #[.slice A3_0 l3_0.length c3_0, .bool a3_1, .int .i64 a3_2] 24 (0, 0)) (ka BK267).out hg (Kd.VW_ne HO_293000.out BK267.out (by decide))); have n6_ := Aside0.mk (blk_grown (g := gb285) (o := .cells #[u286000, .bool t283, .int .i64 t284] 24 (0, 0)) (ka BK285).out hg (Kd.VW_ne HO_293000.out BK285.out (by decide))); have n7_ := Aside0.mk (blk_grown (g := gb292) (o := .cells #[.slice (some ⟨go122, 0, none⟩) x293000_4.length co129, .bool t289, .int .i64 t290] 24 (0, 0)) (ka BK292).out hg (Kd.VW_ne HO_293000.out BK292.out (by decide))); have n8_ := Aside0.mk (blk_grown (g := gb299) (o := .cells #[u300000, .bool t296, .int .i64 t297] 24 (0, 0)) (ka BK299).out hg (Kd.VW_ne HO_293000.out BK299.out (by decide))); have n9_ := Aside0.mk ((by rw [hw]; exact below_set (HB.out) GB122.out : Below w.heap.size w w131)); clear HO_286000; clear HO_293000; clear HO_300000; clear BK265; clear BK266; clear BK267; clear BK285; clear BK292; clear BK299; clear HB; have HO_286000 := n0_; have HO_293000 := n1_; have HO_300000 := n2_; have BK265 := n3_; have BK266 := n4_; have BK267 := n5_; have BK285 := n6_; have BK292 := n7_; have BK299 := n8_; have HB := n9_; clear n0_ n1_ n2_ n3_ n4_ n5_ n6_ n7_ n8_ n9_; clear hg hw hp_))
                              go_roundg k4
                              case measure => have := HJ5.out; have := HJ27.out; have := HJ57.out; have := HK4.out; omega
                              case rel => exact ⟨(wrap64 (x19_4 + 1)), (x267000_4), (x286000_4), (y301), (x300000_4), (u286000), (.slice (some ⟨go122, 0, none⟩) x293000_4.length co129), (u300000), (by first | rfl | (simp; done) | (simp [*]; done)), H', ⟨by have := HJ5.out; have := HJ27.out; have := HJ57.out; have := HK4.out; omega⟩, ra HO_286000, ⟨by (with_reducible repeat (first | apply Kd.VW_alloc | apply Kd.VW_drewN | apply Kd.VW_drew)); exact HO_293000.out⟩, ra HO_300000, ka BK265, ka BK266, ka BK267, ka BK285, ka BK292, ka BK299, ba HB⟩
                            · rw [if_neg c121] at H
                              exact absurd H (by simp)
                          · rw [if_neg c120] at H
                            have c120b0 : decide (x19_4 < (x293000_4.length : Int)) = false := decide_eq_false c120
                            clear c120
                            by_cases c132 : t268 = true
                            · subst c132
                              rw [if_pos rfl] at H
                              replace H := Option.bind_eq_some_iff.mp H
                              obtain ⟨t302, A1330, H⟩ := H
                              try dsimp only at H
                              have A133 := Aside0.mk A1330
                              clear A1330
                              replace H := Option.bind_eq_some_iff.mp H
                              obtain ⟨t303, A1340, H⟩ := H
                              try dsimp only at H
                              have A134 := Aside0.mk A1340
                              clear A1340
                              by_cases c135 : t302 = t303
                              · rw [if_pos c135] at H
                                have c135b0 : (t302 == t303) = true := beq_iff_eq.mpr c135
                                have c135b1 : (t302 != t303) = false := bne_eq_false_iff_eq.mpr c135
                                clear c135
                                replace H := Option.bind_eq_some_iff.mp H
                                obtain ⟨t304, A1360, H⟩ := H
                                try dsimp only at H
                                have A136 := Aside0.mk A1360
                                clear A1360
                                replace H := Option.bind_eq_some_iff.mp H
                                obtain ⟨t305, A1370, H⟩ := H
                                try dsimp only at H
                                have A137 := Aside0.mk A1370
                                clear A1370
                                by_cases c138 : t304 = t305
                                · rw [if_pos c138] at H
                                  have c138b0 : (t304 == t305) = true := beq_iff_eq.mpr c138
                                  have c138b1 : (t304 != t305) = false := bne_eq_false_iff_eq.mpr c138
                                  clear c138
                                  replace H := Option.bind_eq_some_iff.mp H
                                  obtain ⟨t306, A1390, H⟩ := H
                                  try dsimp only at H
                                  have A139 := Aside0.mk A1390
                                  clear A1390
                                  replace H := Option.bind_eq_some_iff.mp H
                                  obtain ⟨t307, A1400, H⟩ := H
                                  try dsimp only at H
                                  have A140 := Aside0.mk A1400
                                  clear A1400
                                  by_cases c141 : t306 = t307
                                  · rw [if_pos c141] at H
                                    have c141b0 : (t306 == t307) = true := beq_iff_eq.mpr c141
                                    have c141b1 : (t306 != t307) = false := bne_eq_false_iff_eq.mpr c141
                                    clear c141
                                    replace H := Option.bind_eq_some_iff.mp H
                                    obtain ⟨t308, A1420, H⟩ := H
                                    try dsimp only at H
                                    have A142 := Aside0.mk A1420
                                    clear A1420
                                    replace H := Option.bind_eq_some_iff.mp H
                                    obtain ⟨t309, A1430, H⟩ := H
                                    try dsimp only at H
                                    have A143 := Aside0.mk A1430
                                    clear A1430
                                    by_cases c144 : t308 = t309
                                    · rw [if_pos c144] at H
                                      have c144b0 : (t308 == t309) = true := beq_iff_eq.mpr c144
                                      have c144b1 : (t308 != t309) = false := bne_eq_false_iff_eq.mpr c144
                                      clear c144
                                      replace H := Option.bind_eq_some_iff.mp H
                                      obtain ⟨t310, A1450, H⟩ := H
                                      try dsimp only at H
                                      have A145 := Aside0.mk A1450
                                      clear A1450
                                      obtain rfl := Option.some.inj H
                                      have hnb146 := NB292_265.out
                                      have hnc146 := NB265_292.out
                                      have hnb147 := NB292_266.out
                                      have hnc147 := NB266_292.out
                                      have hnb148 := NB292_267.out
                                      have hnc148 := NB267_292.out
                                      have hnb149 := NB292_285.out
                                      have hnc149 := NB285_292.out
                                      have hnb150 := NB292_299.out
                                      have hnc150 := NB299_292.out
                                      have hcz151_0 := bc BK292 0
                                      have hcz151_1 := bc BK292 1
                                      have hcz151_2 := bc BK292 2
                                      have hfz151_0 := bf BK292 0
                                      have hfz151_1 := bf BK292 1
                                      have hfz151_2 := bf BK292 2
                                      obtain ⟨Ao152, co152, eo152⟩ := Kd.VW_slice HO_293000.out
                                      subst eo152
                                      try go_wp2
                                      have n0_ := Aside0.mk (Kd.R_drew HO_286000.out)
                                      have n1_ := Aside0.mk (Kd.VW_drew HO_293000.out)
                                      have n2_ := Aside0.mk (Kd.R_drew HO_300000.out)
                                      have n3_ := Aside0.mk (blk_drew BK265.out)
                                      have n4_ := Aside0.mk (blk_drew BK266.out)
                                      have n5_ := Aside0.mk (blk_drew BK267.out)
                                      have n6_ := Aside0.mk (blk_drew BK285.out)
                                      have n7_ := Aside0.mk (blk_drew BK292.out)
                                      have n8_ := Aside0.mk (blk_drew BK299.out)
                                      have n9_ := Aside0.mk (below_drew1 HB.out)
                                      clear HO_286000
                                      clear HO_293000
                                      clear HO_300000
                                      clear BK265
                                      clear BK266
                                      clear BK267
                                      clear BK285
                                      clear BK292
                                      clear BK299
                                      clear HB
                                      have HO_286000 := n0_
                                      have HO_293000 := n1_
                                      have HO_300000 := n2_
                                      have BK265 := n3_
                                      have BK266 := n4_
                                      have BK267 := n5_
                                      have BK285 := n6_
                                      have BK292 := n7_
                                      have BK299 := n8_
                                      have HB := n9_
                                      clear n0_ n1_ n2_ n3_ n4_ n5_ n6_ n7_ n8_ n9_
                                      refine start_ (n := 43) (S := fun w' => w'.cell? ⟨gb265, 0, none⟩ = some (.slice A0_0 l0_0.length c0_0) ∧ w'.cell? ⟨gb265, 1, none⟩ = some (.bool a0_1) ∧ w'.cell? ⟨gb265, 2, none⟩ = some (.int .i64 a0_2) ∧ w'.cell? ⟨gb285, 0, none⟩ = some (u286000) ∧ w'.cell? ⟨gb285, 1, none⟩ = some (.bool t283) ∧ w'.cell? ⟨gb285, 2, none⟩ = some (.int .i64 t284)) (ds := []) #[false, false, false, false, false, false, false, false, false, false, false, false, false, false, false, false, false, false, false, false, false, false, false, false, false, false, false, false, false, false, false, false, false, false, false, false, false, false, false, false, false, false, false] (by kernel_rfl) rfl rfl ⟨(blk_cell BK265.out 0).trans rfl, (blk_cell BK265.out 1).trans rfl, (blk_cell BK265.out 2).trans rfl, (blk_cell BK285.out 0).trans rfl, (blk_cell BK285.out 1).trans rfl, (blk_cell BK285.out 2).trans rfl⟩ (fun hHeld => ?_); refine with_tabW epactlaw09_LeapTells.tab19 epactlaw09_LeapTells.bits19 (fun HT_ HW_ => ?_)
                                      generalize wr.drew = w153 at HO_286000 HO_293000 HO_300000 BK265 BK266 BK267 BK285 BK292 BK299 HB hHeld ⊢
                                      refine pu HT_ 0 (some 103) #[true, false, false, false, false, false, false, false, false, false, false, false, false, false, false, false, false, false, false, false, false, false, false, false, false, false, false, false, false, false, false, false, false, false, false, false, false, false, false, false, false, false, false] ?_
                                      refine pu HT_ 1 (some 104) #[true, true, false, false, false, false, false, false, false, false, false, false, false, false, false, false, false, false, false, false, false, false, false, false, false, false, false, false, false, false, false, false, false, false, false, false, false, false, false, false, false, false, false] ?_
                                      refine pu HT_ 3 (some 106) #[true, true, false, true, false, false, false, false, false, false, false, false, false, false, false, false, false, false, false, false, false, false, false, false, false, false, false, false, false, false, false, false, false, false, false, false, false, false, false, false, false, false, false] ?_
                                      refine pu HT_ 6 (some 109) #[true, true, false, true, false, false, true, false, false, false, false, false, false, false, false, false, false, false, false, false, false, false, false, false, false, false, false, false, false, false, false, false, false, false, false, false, false, false, false, false, false, false, false] ?_
                                      refine take_ (i := 2) (N := some 105) (v := ?_) (a' := ?_) #[true, true, true, true, false, false, true, false, false, false, false, false, false, false, false, false, false, false, false, false, false, false, false, false, false, false, false, false, false, false, false, false, false, false, false, false, false, false, false, false, false, false, false] rfl rfl (take_ofW HT_.out HW_.out (by kernel_rfl)) (fun _ _ _ h => h) (Or.inl ⟨by rfl, ?_⟩) hHeld ?_ ?_
                                      rotate_left
                                      · rintro w' ⟨s0, s1, s2, s3, s4, s5⟩
                                        go_simp
                                        with_reducible rfl
                                      rotate_left
                                      · simp only [Act.put, List.setIfInBounds_toArray, List.set_cons_zero, List.set_cons_succ, i64_w, i32_w]
                                        rfl
                                      refine take_ (i := 5) (N := some 108) (v := ?_) (a' := ?_) #[true, true, true, true, false, true, true, false, false, false, false, false, false, false, false, false, false, false, false, false, false, false, false, false, false, false, false, false, false, false, false, false, false, false, false, false, false, false, false, false, false, false, false] rfl rfl (take_ofW HT_.out HW_.out (by kernel_rfl)) (fun _ _ _ h => h) (Or.inl ⟨by rfl, ?_⟩) hHeld ?_ ?_
                                      rotate_left
                                      · rintro w' ⟨s0, s1, s2, s3, s4, s5⟩
                                        go_simp
                                        with_reducible rfl
                                      rotate_left
                                      · simp only [Act.put, List.setIfInBounds_toArray, List.set_cons_zero, List.set_cons_succ, i64_w, i32_w]
                                        rfl
                                      refine one_ (i := 4) (N := some 107) #[true, true, true, true, true, true, true, false, false, false, false, false, false, false, false, false, false, false, false, false, false, false, false, false, false, false, false, false, false, false, false, false, false, false, false, false, false, false, false, false, false, false, false] rfl rfl (one_of HT_.out (by kernel_rfl)) (by decide) (fun K hK => ?_)
                                      refine goes_ Try.func20 (by kernel_rfl) rfl #[.agg #[.slice A0_0 l0_0.length c0_0, .bool a0_1, .int .i64 a0_2], .int .i64 a1] (by rfl) rfl rfl (by (try simp only [List.map_toArray, List.map_cons, List.map_nil]); first | done | rfl | (simp only [List.length_drop, List.length_take]; rfl)) ?_
                                      with_reducible refine (leap_Find.calls _ _ l0_0 a0_1 a0_2 a1 t302 _ ?side1 ?side2 A133.out).mono ?_
                                      (case side1 => exact cb HR0_0 HB)
                                      (case side2 => exact HC0_0.out)
                                      rintro e w154 ⟨rfl, hb⟩
                                      refine ⟨_, rfl, ?_⟩
                                      have n0_ := rb HO_286000 hb
                                      have n1_ := Aside0.mk (Kd.VW_below (by (with_reducible repeat (first | apply Kd.VW_alloc | apply Kd.VW_drewN | apply Kd.VW_drew)); exact HO_293000.out) hb)
                                      have n2_ := rb HO_300000 hb
                                      have n3_ := kb BK265 hb
                                      have n4_ := kb BK266 hb
                                      have n5_ := kb BK267 hb
                                      have n6_ := kb BK285 hb
                                      have n7_ := kb BK292 hb
                                      have n8_ := kb BK299 hb
                                      have n9_ := bs HB hb
                                      clear HO_286000
                                      clear HO_293000
                                      clear HO_300000
                                      clear BK265
                                      clear BK266
                                      clear BK267
                                      clear BK285
                                      clear BK292
                                      clear BK299
                                      clear HB
                                      have HO_286000 := n0_
                                      have HO_293000 := n1_
                                      have HO_300000 := n2_
                                      have BK265 := n3_
                                      have BK266 := n4_
                                      have BK267 := n5_
                                      have BK285 := n6_
                                      have BK292 := n7_
                                      have BK299 := n8_
                                      have HB := n9_
                                      clear n0_ n1_ n2_ n3_ n4_ n5_ n6_ n7_ n8_ n9_
                                      (try clear hb)
                                      (try clear hb2)
                                      (try clear hk)
                                      (try clear hi)
                                      refine hK.out _ _ ⟨(blk_cell BK265.out 0).trans rfl, (blk_cell BK265.out 1).trans rfl, (blk_cell BK265.out 2).trans rfl, (blk_cell BK285.out 0).trans rfl, (blk_cell BK285.out 1).trans rfl, (blk_cell BK285.out 2).trans rfl⟩ (fun hHeld => ?_)
                                      clear hK K
                                      refine norm_ (a' := ?_) ?_ ?_
                                      rotate_left
                                      · show Act.put _ (some 107) _ = _
                                        simp only [Act.put, List.setIfInBounds_toArray, List.set_cons_zero, List.set_cons_succ, i64_w, i32_w]
                                        rfl
                                      refine one_ (i := 7) (N := some 110) #[true, true, true, true, true, true, true, true, false, false, false, false, false, false, false, false, false, false, false, false, false, false, false, false, false, false, false, false, false, false, false, false, false, false, false, false, false, false, false, false, false, false, false] rfl rfl (one_of HT_.out (by kernel_rfl)) (by decide) (fun K hK => ?_)
                                      refine goes_ Try.func21 (by kernel_rfl) rfl #[.agg #[.slice A0_0 l0_0.length c0_0, .bool a0_1, .int .i64 a0_2], .int .i64 a1] (by rfl) rfl rfl (by (try simp only [List.map_toArray, List.map_cons, List.map_nil]); first | done | rfl | (simp only [List.length_drop, List.length_take]; rfl)) ?_
                                      with_reducible refine (epactref09_Find.calls k4 _ _ l0_0 a0_1 a0_2 a1 t303 _ ?side1 ?side2 A134.out).mono ?_
                                      (case side1 => exact cb HR0_0 HB)
                                      (case side2 => exact HC0_0.out)
                                      rintro e w155 ⟨rfl, hb⟩
                                      refine ⟨_, rfl, ?_⟩
                                      have n0_ := rb HO_286000 hb
                                      have n1_ := Aside0.mk (Kd.VW_below (by (with_reducible repeat (first | apply Kd.VW_alloc | apply Kd.VW_drewN | apply Kd.VW_drew)); exact HO_293000.out) hb)
                                      have n2_ := rb HO_300000 hb
                                      have n3_ := kb BK265 hb
                                      have n4_ := kb BK266 hb
                                      have n5_ := kb BK267 hb
                                      have n6_ := kb BK285 hb
                                      have n7_ := kb BK292 hb
                                      have n8_ := kb BK299 hb
                                      have n9_ := bs HB hb
                                      clear HO_286000
                                      clear HO_293000
                                      clear HO_300000
                                      clear BK265
                                      clear BK266
                                      clear BK267
                                      clear BK285
                                      clear BK292
                                      clear BK299
                                      clear HB
                                      have HO_286000 := n0_
                                      have HO_293000 := n1_
                                      have HO_300000 := n2_
                                      have BK265 := n3_
                                      have BK266 := n4_
                                      have BK267 := n5_
                                      have BK285 := n6_
                                      have BK292 := n7_
                                      have BK299 := n8_
                                      have HB := n9_
                                      clear n0_ n1_ n2_ n3_ n4_ n5_ n6_ n7_ n8_ n9_
                                      (try clear hb)
                                      (try clear hb2)
                                      (try clear hk)
                                      (try clear hi)
                                      refine hK.out _ _ ⟨(blk_cell BK265.out 0).trans rfl, (blk_cell BK265.out 1).trans rfl, (blk_cell BK265.out 2).trans rfl, (blk_cell BK285.out 0).trans rfl, (blk_cell BK285.out 1).trans rfl, (blk_cell BK285.out 2).trans rfl⟩ (fun hHeld => ?_)
                                      clear hK K
                                      refine norm_ (a' := ?_) ?_ ?_
                                      rotate_left
                                      · show Act.put _ (some 110) _ = _
                                        simp only [Act.put, List.setIfInBounds_toArray, List.set_cons_zero, List.set_cons_succ, i64_w, i32_w]
                                        rfl
                                      refine pu HT_ 8 (some 111) #[true, true, true, true, true, true, true, true, true, false, false, false, false, false, false, false, false, false, false, false, false, false, false, false, false, false, false, false, false, false, false, false, false, false, false, false, false, false, false, false, false, false, false] ?_
                                      refine pu HT_ 9 (some 112) #[true, true, true, true, true, true, true, true, true, true, false, false, false, false, false, false, false, false, false, false, false, false, false, false, false, false, false, false, false, false, false, false, false, false, false, false, false, false, false, false, false, false, false] ?_
                                      refine pu HT_ 10 (some 113) #[true, true, true, true, true, true, true, true, true, true, true, false, false, false, false, false, false, false, false, false, false, false, false, false, false, false, false, false, false, false, false, false, false, false, false, false, false, false, false, false, false, false, false] ?_
                                      refine pu HT_ 12 (some 115) #[true, true, true, true, true, true, true, true, true, true, true, false, true, false, false, false, false, false, false, false, false, false, false, false, false, false, false, false, false, false, false, false, false, false, false, false, false, false, false, false, false, false, false] ?_
                                      refine pu HT_ 15 (some 118) #[true, true, true, true, true, true, true, true, true, true, true, false, true, false, false, true, false, false, false, false, false, false, false, false, false, false, false, false, false, false, false, false, false, false, false, false, false, false, false, false, false, false, false] ?_
                                      refine take_ (i := 11) (N := some 114) (v := ?_) (a' := ?_) #[true, true, true, true, true, true, true, true, true, true, true, true, true, false, false, true, false, false, false, false, false, false, false, false, false, false, false, false, false, false, false, false, false, false, false, false, false, false, false, false, false, false, false] rfl rfl (take_ofW HT_.out HW_.out (by kernel_rfl)) (fun _ _ _ h => h) (Or.inl ⟨by rfl, ?_⟩) hHeld ?_ ?_
                                      rotate_left
                                      · rintro w' ⟨s0, s1, s2, s3, s4, s5⟩
                                        go_simp
                                        with_reducible rfl
                                      rotate_left
                                      · simp only [Act.put, List.setIfInBounds_toArray, List.set_cons_zero, List.set_cons_succ, i64_w, i32_w]
                                        rfl
                                      refine take_ (i := 14) (N := some 117) (v := ?_) (a' := ?_) #[true, true, true, true, true, true, true, true, true, true, true, true, true, false, true, true, false, false, false, false, false, false, false, false, false, false, false, false, false, false, false, false, false, false, false, false, false, false, false, false, false, false, false] rfl rfl (take_ofW HT_.out HW_.out (by kernel_rfl)) (fun _ _ _ h => h) (Or.inl ⟨by rfl, ?_⟩) hHeld ?_ ?_
                                      rotate_left
                                      · rintro w' ⟨s0, s1, s2, s3, s4, s5⟩
                                        go_simp
                                        with_reducible rfl
                                      rotate_left
                                      · simp only [Act.put, List.setIfInBounds_toArray, List.set_cons_zero, List.set_cons_succ, i64_w, i32_w]
                                        rfl
                                      refine one_ (i := 13) (N := some 116) #[true, true, true, true, true, true, true, true, true, true, true, true, true, true, true, true, false, false, false, false, false, false, false, false, false, false, false, false, false, false, false, false, false, false, false, false, false, false, false, false, false, false, false] rfl rfl (one_of HT_.out (by kernel_rfl)) (by decide) (fun K hK => ?_)
                                      refine goes_ Try.func22 (by kernel_rfl) rfl #[.agg #[.slice A0_0 l0_0.length c0_0, .bool a0_1, .int .i64 a0_2], .int .i64 a1] (by rfl) rfl rfl (by (try simp only [List.map_toArray, List.map_cons, List.map_nil]); first | done | rfl | (simp only [List.length_drop, List.length_take]; rfl)) ?_
                                      with_reducible refine (leap_Total.calls k4 _ _ l0_0 a0_1 a0_2 a1 t304 _ ?side1 ?side2 A136.out).mono ?_
                                      (case side1 => exact cb HR0_0 HB)
                                      (case side2 => exact HC0_0.out)
                                      rintro e w156 ⟨rfl, hb⟩
                                      refine ⟨_, rfl, ?_⟩
                                      have n0_ := rb HO_286000 hb
                                      have n1_ := Aside0.mk (Kd.VW_below (by (with_reducible repeat (first | apply Kd.VW_alloc | apply Kd.VW_drewN | apply Kd.VW_drew)); exact HO_293000.out) hb)
                                      have n2_ := rb HO_300000 hb
                                      have n3_ := kb BK265 hb
                                      have n4_ := kb BK266 hb
                                      have n5_ := kb BK267 hb
                                      have n6_ := kb BK285 hb
                                      have n7_ := kb BK292 hb
                                      have n8_ := kb BK299 hb
                                      have n9_ := bs HB hb
                                      clear HO_286000
                                      clear HO_293000
                                      clear HO_300000
                                      clear BK265
                                      clear BK266
                                      clear BK267
                                      clear BK285
                                      clear BK292
                                      clear BK299
                                      clear HB
                                      have HO_286000 := n0_
                                      have HO_293000 := n1_
                                      have HO_300000 := n2_
                                      have BK265 := n3_
                                      have BK266 := n4_
                                      have BK267 := n5_
                                      have BK285 := n6_
                                      have BK292 := n7_
                                      have BK299 := n8_
                                      have HB := n9_
                                      clear n0_ n1_ n2_ n3_ n4_ n5_ n6_ n7_ n8_ n9_
                                      (try clear hb)
                                      (try clear hb2)
                                      (try clear hk)
                                      (try clear hi)
                                      refine hK.out _ _ ⟨(blk_cell BK265.out 0).trans rfl, (blk_cell BK265.out 1).trans rfl, (blk_cell BK265.out 2).trans rfl, (blk_cell BK285.out 0).trans rfl, (blk_cell BK285.out 1).trans rfl, (blk_cell BK285.out 2).trans rfl⟩ (fun hHeld => ?_)
                                      clear hK K
                                      refine norm_ (a' := ?_) ?_ ?_
                                      rotate_left
                                      · show Act.put _ (some 116) _ = _
                                        simp only [Act.put, List.setIfInBounds_toArray, List.set_cons_zero, List.set_cons_succ, i64_w, i32_w]
                                        rfl
                                      refine one_ (i := 16) (N := some 119) #[true, true, true, true, true, true, true, true, true, true, true, true, true, true, true, true, true, false, false, false, false, false, false, false, false, false, false, false, false, false, false, false, false, false, false, false, false, false, false, false, false, false, false] rfl rfl (one_of HT_.out (by kernel_rfl)) (by decide) (fun K hK => ?_)
                                      refine goes_ Try.func23 (by kernel_rfl) rfl #[.agg #[.slice A0_0 l0_0.length c0_0, .bool a0_1, .int .i64 a0_2], .int .i64 a1] (by rfl) rfl rfl (by (try simp only [List.map_toArray, List.map_cons, List.map_nil]); first | done | rfl | (simp only [List.length_drop, List.length_take]; rfl)) ?_
                                      with_reducible refine (epactref09_Total.calls k4 _ _ l0_0 a0_1 a0_2 a1 t305 _ ?side1 ?side2 A137.out).mono ?_
                                      (case side1 => exact cb HR0_0 HB)
                                      (case side2 => exact HC0_0.out)
                                      rintro e w157 ⟨rfl, hb⟩
                                      refine ⟨_, rfl, ?_⟩
                                      have n0_ := rb HO_286000 hb
                                      have n1_ := Aside0.mk (Kd.VW_below (by (with_reducible repeat (first | apply Kd.VW_alloc | apply Kd.VW_drewN | apply Kd.VW_drew)); exact HO_293000.out) hb)
                                      have n2_ := rb HO_300000 hb
                                      have n3_ := kb BK265 hb
                                      have n4_ := kb BK266 hb
                                      have n5_ := kb BK267 hb
                                      have n6_ := kb BK285 hb
                                      have n7_ := kb BK292 hb
                                      have n8_ := kb BK299 hb
                                      have n9_ := bs HB hb
                                      clear HO_286000
                                      clear HO_293000
                                      clear HO_300000
                                      clear BK265
                                      clear BK266
                                      clear BK267
                                      clear BK285
                                      clear BK292
                                      clear BK299
                                      clear HB
                                      have HO_286000 := n0_
                                      have HO_293000 := n1_
                                      have HO_300000 := n2_
                                      have BK265 := n3_
                                      have BK266 := n4_
                                      have BK267 := n5_
                                      have BK285 := n6_
                                      have BK292 := n7_
                                      have BK299 := n8_
                                      have HB := n9_
                                      clear n0_ n1_ n2_ n3_ n4_ n5_ n6_ n7_ n8_ n9_
                                      (try clear hb)
                                      (try clear hb2)
                                      (try clear hk)
                                      (try clear hi)
                                      refine hK.out _ _ ⟨(blk_cell BK265.out 0).trans rfl, (blk_cell BK265.out 1).trans rfl, (blk_cell BK265.out 2).trans rfl, (blk_cell BK285.out 0).trans rfl, (blk_cell BK285.out 1).trans rfl, (blk_cell BK285.out 2).trans rfl⟩ (fun hHeld => ?_)
                                      clear hK K
                                      refine norm_ (a' := ?_) ?_ ?_
                                      rotate_left
                                      · show Act.put _ (some 119) _ = _
                                        simp only [Act.put, List.setIfInBounds_toArray, List.set_cons_zero, List.set_cons_succ, i64_w, i32_w]
                                        rfl
                                      refine pu HT_ 17 (some 120) #[true, true, true, true, true, true, true, true, true, true, true, true, true, true, true, true, true, true, false, false, false, false, false, false, false, false, false, false, false, false, false, false, false, false, false, false, false, false, false, false, false, false, false] ?_
                                      refine pu HT_ 18 (some 121) #[true, true, true, true, true, true, true, true, true, true, true, true, true, true, true, true, true, true, true, false, false, false, false, false, false, false, false, false, false, false, false, false, false, false, false, false, false, false, false, false, false, false, false] ?_
                                      refine pu HT_ 19 (some 122) #[true, true, true, true, true, true, true, true, true, true, true, true, true, true, true, true, true, true, true, true, false, false, false, false, false, false, false, false, false, false, false, false, false, false, false, false, false, false, false, false, false, false, false] ?_
                                      refine pu HT_ 21 (some 124) #[true, true, true, true, true, true, true, true, true, true, true, true, true, true, true, true, true, true, true, true, false, true, false, false, false, false, false, false, false, false, false, false, false, false, false, false, false, false, false, false, false, false, false] ?_
                                      refine pu HT_ 24 (some 127) #[true, true, true, true, true, true, true, true, true, true, true, true, true, true, true, true, true, true, true, true, false, true, false, false, true, false, false, false, false, false, false, false, false, false, false, false, false, false, false, false, false, false, false] ?_
                                      refine take_ (i := 20) (N := some 123) (v := ?_) (a' := ?_) #[true, true, true, true, true, true, true, true, true, true, true, true, true, true, true, true, true, true, true, true, true, true, false, false, true, false, false, false, false, false, false, false, false, false, false, false, false, false, false, false, false, false, false] rfl rfl (take_ofW HT_.out HW_.out (by kernel_rfl)) (fun _ _ _ h => h) (Or.inl ⟨by rfl, ?_⟩) hHeld ?_ ?_
                                      rotate_left
                                      · rintro w' ⟨s0, s1, s2, s3, s4, s5⟩
                                        go_simp
                                        with_reducible rfl
                                      rotate_left
                                      · simp only [Act.put, List.setIfInBounds_toArray, List.set_cons_zero, List.set_cons_succ, i64_w, i32_w]
                                        rfl
                                      refine take_ (i := 23) (N := some 126) (v := ?_) (a' := ?_) #[true, true, true, true, true, true, true, true, true, true, true, true, true, true, true, true, true, true, true, true, true, true, false, true, true, false, false, false, false, false, false, false, false, false, false, false, false, false, false, false, false, false, false] rfl rfl (take_ofW HT_.out HW_.out (by kernel_rfl)) (fun _ _ _ h => h) (Or.inl ⟨by rfl, ?_⟩) hHeld ?_ ?_
                                      rotate_left
                                      · rintro w' ⟨s0, s1, s2, s3, s4, s5⟩
                                        go_simp
                                        with_reducible rfl
                                      rotate_left
                                      · simp only [Act.put, List.setIfInBounds_toArray, List.set_cons_zero, List.set_cons_succ, i64_w, i32_w]
                                        rfl
                                      refine one_ (i := 22) (N := some 125) #[true, true, true, true, true, true, true, true, true, true, true, true, true, true, true, true, true, true, true, true, true, true, true, true, true, false, false, false, false, false, false, false, false, false, false, false, false, false, false, false, false, false, false] rfl rfl (one_of HT_.out (by kernel_rfl)) (by decide) (fun K hK => ?_)
                                      refine goes_ Try.func24 (by kernel_rfl) rfl #[.agg #[.slice A0_0 l0_0.length c0_0, .bool a0_1, .int .i64 a0_2], .int .i64 a1] (by rfl) rfl rfl (by (try simp only [List.map_toArray, List.map_cons, List.map_nil]); first | done | rfl | (simp only [List.length_drop, List.length_take]; rfl)) ?_
                                      with_reducible refine (leap_Step.calls _ _ l0_0 a0_1 a0_2 a1 t306 _ ?side1 ?side2 A139.out).mono ?_
                                      (case side1 => exact cb HR0_0 HB)
                                      (case side2 => exact HC0_0.out)
                                      rintro e w158 ⟨rfl, hb⟩
                                      refine ⟨_, rfl, ?_⟩
                                      have n0_ := rb HO_286000 hb
                                      have n1_ := Aside0.mk (Kd.VW_below (by (with_reducible repeat (first | apply Kd.VW_alloc | apply Kd.VW_drewN | apply Kd.VW_drew)); exact HO_293000.out) hb)
                                      have n2_ := rb HO_300000 hb
                                      have n3_ := kb BK265 hb
                                      have n4_ := kb BK266 hb
                                      have n5_ := kb BK267 hb
                                      have n6_ := kb BK285 hb
                                      have n7_ := kb BK292 hb
                                      have n8_ := kb BK299 hb
                                      have n9_ := bs HB hb
                                      clear HO_286000
                                      clear HO_293000
                                      clear HO_300000
                                      clear BK265
                                      clear BK266
                                      clear BK267
                                      clear BK285
                                      clear BK292
                                      clear BK299
                                      clear HB
                                      have HO_286000 := n0_
                                      have HO_293000 := n1_
                                      have HO_300000 := n2_
                                      have BK265 := n3_
                                      have BK266 := n4_
                                      have BK267 := n5_
                                      have BK285 := n6_
                                      have BK292 := n7_
                                      have BK299 := n8_
                                      have HB := n9_
                                      clear n0_ n1_ n2_ n3_ n4_ n5_ n6_ n7_ n8_ n9_
                                      (try clear hb)
                                      (try clear hb2)
                                      (try clear hk)
                                      (try clear hi)
                                      refine hK.out _ _ ⟨(blk_cell BK265.out 0).trans rfl, (blk_cell BK265.out 1).trans rfl, (blk_cell BK265.out 2).trans rfl, (blk_cell BK285.out 0).trans rfl, (blk_cell BK285.out 1).trans rfl, (blk_cell BK285.out 2).trans rfl⟩ (fun hHeld => ?_)
                                      clear hK K
                                      refine norm_ (a' := ?_) ?_ ?_
                                      rotate_left
                                      · show Act.put _ (some 125) _ = _
                                        simp only [Act.put, List.setIfInBounds_toArray, List.set_cons_zero, List.set_cons_succ, i64_w, i32_w]
                                        rfl
                                      refine one_ (i := 25) (N := some 128) #[true, true, true, true, true, true, true, true, true, true, true, true, true, true, true, true, true, true, true, true, true, true, true, true, true, true, false, false, false, false, false, false, false, false, false, false, false, false, false, false, false, false, false] rfl rfl (one_of HT_.out (by kernel_rfl)) (by decide) (fun K hK => ?_)
                                      refine goes_ Try.func25 (by kernel_rfl) rfl #[.agg #[.slice A0_0 l0_0.length c0_0, .bool a0_1, .int .i64 a0_2], .int .i64 a1] (by rfl) rfl rfl (by (try simp only [List.map_toArray, List.map_cons, List.map_nil]); first | done | rfl | (simp only [List.length_drop, List.length_take]; rfl)) ?_
                                      with_reducible refine (epactref09_Step.calls k4 _ _ l0_0 a0_1 a0_2 a1 t307 _ ?side1 ?side2 A140.out).mono ?_
                                      (case side1 => exact cb HR0_0 HB)
                                      (case side2 => exact HC0_0.out)
                                      rintro e w159 ⟨rfl, hb⟩
                                      refine ⟨_, rfl, ?_⟩
                                      have n0_ := rb HO_286000 hb
                                      have n1_ := Aside0.mk (Kd.VW_below (by (with_reducible repeat (first | apply Kd.VW_alloc | apply Kd.VW_drewN | apply Kd.VW_drew)); exact HO_293000.out) hb)
                                      have n2_ := rb HO_300000 hb
                                      have n3_ := kb BK265 hb
                                      have n4_ := kb BK266 hb
                                      have n5_ := kb BK267 hb
                                      have n6_ := kb BK285 hb
                                      have n7_ := kb BK292 hb
                                      have n8_ := kb BK299 hb
                                      have n9_ := bs HB hb
                                      clear HO_286000
                                      clear HO_293000
                                      clear HO_300000
                                      clear BK265
                                      clear BK266
                                      clear BK267
                                      clear BK285
                                      clear BK292
                                      clear BK299
                                      clear HB
                                      have HO_286000 := n0_
                                      have HO_293000 := n1_
                                      have HO_300000 := n2_
                                      have BK265 := n3_
                                      have BK266 := n4_
                                      have BK267 := n5_
                                      have BK285 := n6_
                                      have BK292 := n7_
                                      have BK299 := n8_
                                      have HB := n9_
                                      clear n0_ n1_ n2_ n3_ n4_ n5_ n6_ n7_ n8_ n9_
                                      (try clear hb)
                                      (try clear hb2)
                                      (try clear hk)
                                      (try clear hi)
                                      refine hK.out _ _ ⟨(blk_cell BK265.out 0).trans rfl, (blk_cell BK265.out 1).trans rfl, (blk_cell BK265.out 2).trans rfl, (blk_cell BK285.out 0).trans rfl, (blk_cell BK285.out 1).trans rfl, (blk_cell BK285.out 2).trans rfl⟩ (fun hHeld => ?_)
                                      clear hK K
                                      refine norm_ (a' := ?_) ?_ ?_
                                      rotate_left
                                      · show Act.put _ (some 128) _ = _
                                        simp only [Act.put, List.setIfInBounds_toArray, List.set_cons_zero, List.set_cons_succ, i64_w, i32_w]
                                        rfl
                                      refine pu HT_ 26 (some 129) #[true, true, true, true, true, true, true, true, true, true, true, true, true, true, true, true, true, true, true, true, true, true, true, true, true, true, true, false, false, false, false, false, false, false, false, false, false, false, false, false, false, false, false] ?_
                                      refine pu HT_ 27 (some 130) #[true, true, true, true, true, true, true, true, true, true, true, true, true, true, true, true, true, true, true, true, true, true, true, true, true, true, true, true, false, false, false, false, false, false, false, false, false, false, false, false, false, false, false] ?_
                                      refine pu HT_ 28 (some 131) #[true, true, true, true, true, true, true, true, true, true, true, true, true, true, true, true, true, true, true, true, true, true, true, true, true, true, true, true, true, false, false, false, false, false, false, false, false, false, false, false, false, false, false] ?_
                                      refine pu HT_ 30 (some 133) #[true, true, true, true, true, true, true, true, true, true, true, true, true, true, true, true, true, true, true, true, true, true, true, true, true, true, true, true, true, false, true, false, false, false, false, false, false, false, false, false, false, false, false] ?_
                                      refine pu HT_ 33 (some 136) #[true, true, true, true, true, true, true, true, true, true, true, true, true, true, true, true, true, true, true, true, true, true, true, true, true, true, true, true, true, false, true, false, false, true, false, false, false, false, false, false, false, false, false] ?_
                                      refine take_ (i := 29) (N := some 132) (v := ?_) (a' := ?_) #[true, true, true, true, true, true, true, true, true, true, true, true, true, true, true, true, true, true, true, true, true, true, true, true, true, true, true, true, true, true, true, false, false, true, false, false, false, false, false, false, false, false, false] rfl rfl (take_ofW HT_.out HW_.out (by kernel_rfl)) (fun _ _ _ h => h) (Or.inl ⟨by rfl, ?_⟩) hHeld ?_ ?_
                                      rotate_left
                                      · rintro w' ⟨s0, s1, s2, s3, s4, s5⟩
                                        go_simp
                                        with_reducible rfl
                                      rotate_left
                                      · simp only [Act.put, List.setIfInBounds_toArray, List.set_cons_zero, List.set_cons_succ, i64_w, i32_w]
                                        rfl
                                      refine take_ (i := 32) (N := some 135) (v := ?_) (a' := ?_) #[true, true, true, true, true, true, true, true, true, true, true, true, true, true, true, true, true, true, true, true, true, true, true, true, true, true, true, true, true, true, true, false, true, true, false, false, false, false, false, false, false, false, false] rfl rfl (take_ofW HT_.out HW_.out (by kernel_rfl)) (fun _ _ _ h => h) (Or.inl ⟨by rfl, ?_⟩) hHeld ?_ ?_
                                      rotate_left
                                      · rintro w' ⟨s0, s1, s2, s3, s4, s5⟩
                                        go_simp
                                        with_reducible rfl
                                      rotate_left
                                      · simp only [Act.put, List.setIfInBounds_toArray, List.set_cons_zero, List.set_cons_succ, i64_w, i32_w]
                                        rfl
                                      refine one_ (i := 31) (N := some 134) #[true, true, true, true, true, true, true, true, true, true, true, true, true, true, true, true, true, true, true, true, true, true, true, true, true, true, true, true, true, true, true, true, true, true, false, false, false, false, false, false, false, false, false] rfl rfl (one_of HT_.out (by kernel_rfl)) (by decide) (fun K hK => ?_)
                                      refine goes_ Try.func26 (by kernel_rfl) rfl #[.agg #[.slice A0_0 l0_0.length c0_0, .bool a0_1, .int .i64 a0_2], .int .i64 a1] (by rfl) rfl rfl (by (try simp only [List.map_toArray, List.map_cons, List.map_nil]); first | done | rfl | (simp only [List.length_drop, List.length_take]; rfl)) ?_
                                      with_reducible refine (leap_Length.calls _ _ l0_0 a0_1 a0_2 a1 t308 _ ?side1 ?side2 A142.out).mono ?_
                                      (case side1 => exact cb HR0_0 HB)
                                      (case side2 => exact HC0_0.out)
                                      rintro e w160 ⟨rfl, hb⟩
                                      refine ⟨_, rfl, ?_⟩
                                      have n0_ := rb HO_286000 hb
                                      have n1_ := Aside0.mk (Kd.VW_below (by (with_reducible repeat (first | apply Kd.VW_alloc | apply Kd.VW_drewN | apply Kd.VW_drew)); exact HO_293000.out) hb)
                                      have n2_ := rb HO_300000 hb
                                      have n3_ := kb BK265 hb
                                      have n4_ := kb BK266 hb
                                      have n5_ := kb BK267 hb
                                      have n6_ := kb BK285 hb
                                      have n7_ := kb BK292 hb
                                      have n8_ := kb BK299 hb
                                      have n9_ := bs HB hb
                                      clear HO_286000
                                      clear HO_293000
                                      clear HO_300000
                                      clear BK265
                                      clear BK266
                                      clear BK267
                                      clear BK285
                                      clear BK292
                                      clear BK299
                                      clear HB
                                      have HO_286000 := n0_
                                      have HO_293000 := n1_
                                      have HO_300000 := n2_
                                      have BK265 := n3_
                                      have BK266 := n4_
                                      have BK267 := n5_
                                      have BK285 := n6_
                                      have BK292 := n7_
                                      have BK299 := n8_
                                      have HB := n9_
                                      clear n0_ n1_ n2_ n3_ n4_ n5_ n6_ n7_ n8_ n9_
                                      (try clear hb)
                                      (try clear hb2)
                                      (try clear hk)
                                      (try clear hi)
                                      refine hK.out _ _ ⟨(blk_cell BK265.out 0).trans rfl, (blk_cell BK265.out 1).trans rfl, (blk_cell BK265.out 2).trans rfl, (blk_cell BK285.out 0).trans rfl, (blk_cell BK285.out 1).trans rfl, (blk_cell BK285.out 2).trans rfl⟩ (fun hHeld => ?_)
                                      clear hK K
                                      refine norm_ (a' := ?_) ?_ ?_
                                      rotate_left
                                      · show Act.put _ (some 134) _ = _
                                        simp only [Act.put, List.setIfInBounds_toArray, List.set_cons_zero, List.set_cons_succ, i64_w, i32_w]
                                        rfl
                                      refine one_ (i := 34) (N := some 137) #[true, true, true, true, true, true, true, true, true, true, true, true, true, true, true, true, true, true, true, true, true, true, true, true, true, true, true, true, true, true, true, true, true, true, true, false, false, false, false, false, false, false, false] rfl rfl (one_of HT_.out (by kernel_rfl)) (by decide) (fun K hK => ?_)
                                      refine goes_ Try.func27 (by kernel_rfl) rfl #[.agg #[.slice A0_0 l0_0.length c0_0, .bool a0_1, .int .i64 a0_2], .int .i64 a1] (by rfl) rfl rfl (by (try simp only [List.map_toArray, List.map_cons, List.map_nil]); first | done | rfl | (simp only [List.length_drop, List.length_take]; rfl)) ?_
                                      with_reducible refine (epactref09_Length.calls k4 _ _ l0_0 a0_1 a0_2 a1 t309 _ ?side1 ?side2 A143.out).mono ?_
                                      (case side1 => exact cb HR0_0 HB)
                                      (case side2 => exact HC0_0.out)
                                      rintro e w161 ⟨rfl, hb⟩
                                      refine ⟨_, rfl, ?_⟩
                                      have n0_ := rb HO_286000 hb
                                      have n1_ := Aside0.mk (Kd.VW_below (by (with_reducible repeat (first | apply Kd.VW_alloc | apply Kd.VW_drewN | apply Kd.VW_drew)); exact HO_293000.out) hb)
                                      have n2_ := rb HO_300000 hb
                                      have n3_ := kb BK265 hb
                                      have n4_ := kb BK266 hb
                                      have n5_ := kb BK267 hb
                                      have n6_ := kb BK285 hb
                                      have n7_ := kb BK292 hb
                                      have n8_ := kb BK299 hb
                                      have n9_ := bs HB hb
                                      clear HO_286000
                                      clear HO_293000
                                      clear HO_300000
                                      clear BK265
                                      clear BK266
                                      clear BK267
                                      clear BK285
                                      clear BK292
                                      clear BK299
                                      clear HB
                                      have HO_286000 := n0_
                                      have HO_293000 := n1_
                                      have HO_300000 := n2_
                                      have BK265 := n3_
                                      have BK266 := n4_
                                      have BK267 := n5_
                                      have BK285 := n6_
                                      have BK292 := n7_
                                      have BK299 := n8_
                                      have HB := n9_
                                      clear n0_ n1_ n2_ n3_ n4_ n5_ n6_ n7_ n8_ n9_
                                      (try clear hb)
                                      (try clear hb2)
                                      (try clear hk)
                                      (try clear hi)
                                      obtain ⟨Ao162, co162, eo162⟩ := Kd.R_slice HO_286000.out
                                      (first | subst eo162 | (injection eo162 with f1_ f2_ f3_; have f4_ := f1_.symm; have f5_ := f3_.symm; clear f1_ f2_ f3_; subst f4_; subst f5_))
                                      refine hK.out _ _ ⟨(blk_cell BK265.out 0).trans rfl, (blk_cell BK265.out 1).trans rfl, (blk_cell BK265.out 2).trans rfl, (blk_cell BK285.out 0).trans rfl, (blk_cell BK285.out 1).trans rfl, (blk_cell BK285.out 2).trans rfl⟩ (fun hHeld => ?_)
                                      clear hK K
                                      refine norm_ (a' := ?_) ?_ ?_
                                      rotate_left
                                      · show Act.put _ (some 137) _ = _
                                        simp only [Act.put, List.setIfInBounds_toArray, List.set_cons_zero, List.set_cons_succ, i64_w, i32_w]
                                        rfl
                                      refine pu HT_ 35 (some 138) #[true, true, true, true, true, true, true, true, true, true, true, true, true, true, true, true, true, true, true, true, true, true, true, true, true, true, true, true, true, true, true, true, true, true, true, true, false, false, false, false, false, false, false] ?_
                                      refine pu HT_ 36 (some 139) #[true, true, true, true, true, true, true, true, true, true, true, true, true, true, true, true, true, true, true, true, true, true, true, true, true, true, true, true, true, true, true, true, true, true, true, true, true, false, false, false, false, false, false] ?_
                                      refine pu HT_ 37 (some 140) #[true, true, true, true, true, true, true, true, true, true, true, true, true, true, true, true, true, true, true, true, true, true, true, true, true, true, true, true, true, true, true, true, true, true, true, true, true, true, false, false, false, false, false] ?_
                                      refine take_ (i := 38) (N := some 141) (v := ?_) (a' := ?_) #[true, true, true, true, true, true, true, true, true, true, true, true, true, true, true, true, true, true, true, true, true, true, true, true, true, true, true, true, true, true, true, true, true, true, true, true, true, true, true, false, false, false, false] rfl rfl (take_ofW HT_.out HW_.out (by kernel_rfl)) (fun _ _ _ h => h) (Or.inl ⟨by rfl, ?_⟩) hHeld ?_ ?_
                                      rotate_left
                                      · rintro w' ⟨s0, s1, s2, s3, s4, s5⟩
                                        go_simp
                                        with_reducible rfl
                                      rotate_left
                                      · simp only [Act.put, List.setIfInBounds_toArray, List.set_cons_zero, List.set_cons_succ, i64_w, i32_w]
                                        rfl
                                      refine take_ (i := 39) (N := some 142) (v := ?_) (a' := ?_) #[true, true, true, true, true, true, true, true, true, true, true, true, true, true, true, true, true, true, true, true, true, true, true, true, true, true, true, true, true, true, true, true, true, true, true, true, true, true, true, true, false, false, false] rfl rfl (take_ofW HT_.out HW_.out (by kernel_rfl)) (fun _ _ _ h => h) (Or.inl ⟨by rfl, ?_⟩) hHeld ?_ ?_
                                      rotate_left
                                      · rintro w' ⟨s0, s1, s2, s3, s4, s5⟩
                                        go_simp
                                        with_reducible rfl
                                      rotate_left
                                      · simp only [Act.put, List.setIfInBounds_toArray, List.set_cons_zero, List.set_cons_succ, i64_w, i32_w]
                                        rfl
                                      refine one_ (i := 40) (N := some 143) #[true, true, true, true, true, true, true, true, true, true, true, true, true, true, true, true, true, true, true, true, true, true, true, true, true, true, true, true, true, true, true, true, true, true, true, true, true, true, true, true, true, false, false] rfl rfl (one_of HT_.out (by kernel_rfl)) (by decide) (fun K hK => ?_)
                                      refine goes_ Try.func16 (by kernel_rfl) rfl #[.agg #[.slice A0_0 l0_0.length c0_0, .bool a0_1, .int .i64 a0_2], .agg #[.slice Ao162 x286000_4.length co162, .bool t283, .int .i64 t284]] (by rfl) rfl rfl (by (try simp only [List.map_toArray, List.map_cons, List.map_nil]); first | done | rfl | (simp only [List.length_drop, List.length_take]; rfl)) ?_
                                      with_reducible refine (epactref09_Same.calls k4 _ _ l0_0 a0_1 a0_2 _ _ x286000_4 t283 t284 t310 _ ?side1 ?side2 ?side3 ?side4 A145.out).mono ?_
                                      (case side1 => exact cb HR0_0 HB)
                                      (case side2 => exact HC0_0.out)
                                      (case side3 => repeat (first | exact (Kd.R_reads' HO_286000.out).2.2 | (with_reducible refine Kd.C_alloc ?_ _) | (with_reducible refine Kd.C_drewN ?_ _) | (with_reducible refine Kd.C_drew ?_)))
                                      (case side4 => exact (Kd.R_reads' HO_286000.out).2.1)
                                      rintro e w163 ⟨rfl, hb⟩
                                      refine ⟨_, rfl, ?_⟩
                                      have n0_ := rb HO_286000 hb
                                      have n1_ := Aside0.mk (Kd.VW_below (by (with_reducible repeat (first | apply Kd.VW_alloc | apply Kd.VW_drewN | apply Kd.VW_drew)); exact HO_293000.out) hb)
                                      have n2_ := rb HO_300000 hb
                                      have n3_ := kb BK265 hb
                                      have n4_ := kb BK266 hb
                                      have n5_ := kb BK267 hb
                                      have n6_ := kb BK285 hb
                                      have n7_ := kb BK292 hb
                                      have n8_ := kb BK299 hb
                                      have n9_ := bs HB hb
                                      clear HO_286000
                                      clear HO_293000
                                      clear HO_300000
                                      clear BK265
                                      clear BK266
                                      clear BK267
                                      clear BK285
                                      clear BK292
                                      clear BK299
                                      clear HB
                                      have HO_286000 := n0_
                                      have HO_293000 := n1_
                                      have HO_300000 := n2_
                                      have BK265 := n3_
                                      have BK266 := n4_
                                      have BK267 := n5_
                                      have BK285 := n6_
                                      have BK292 := n7_
                                      have BK299 := n8_
                                      have HB := n9_
                                      clear n0_ n1_ n2_ n3_ n4_ n5_ n6_ n7_ n8_ n9_
                                      (try clear hb)
                                      (try clear hb2)
                                      (try clear hk)
                                      (try clear hi)
                                      refine hK.out _ _ ⟨(blk_cell BK265.out 0).trans rfl, (blk_cell BK265.out 1).trans rfl, (blk_cell BK265.out 2).trans rfl, (blk_cell BK285.out 0).trans rfl, (blk_cell BK285.out 1).trans rfl, (blk_cell BK285.out 2).trans rfl⟩ (fun hHeld => ?_)
                                      clear hK K
                                      refine norm_ (a' := ?_) ?_ ?_
                                      rotate_left
                                      · show Act.put _ (some 143) _ = _
                                        simp only [Act.put, List.setIfInBounds_toArray, List.set_cons_zero, List.set_cons_succ, i64_w, i32_w]
                                        rfl
                                      refine pu HT_ 41 (some 144) #[true, true, true, true, true, true, true, true, true, true, true, true, true, true, true, true, true, true, true, true, true, true, true, true, true, true, true, true, true, true, true, true, true, true, true, true, true, true, true, true, true, true, false] ?_
                                      refine pu HT_ 42 (some 8) #[true, true, true, true, true, true, true, true, true, true, true, true, true, true, true, true, true, true, true, true, true, true, true, true, true, true, true, true, true, true, true, true, true, true, true, true, true, true, true, true, true, true, true] ?_
                                      refine done_ (done_of HT_.out (by kernel_rfl)) ?_
                                      try go_wp2
                                      go_ret
                                      exact fi HB
                                    · rw [if_neg c144] at H
                                      have c144b0 : (t308 == t309) = false := beq_eq_false_iff_ne.mpr c144
                                      have c144b1 : (t308 != t309) = true := bne_iff_ne.mpr c144
                                      exact absurd H (by simp)
                                  · rw [if_neg c141] at H
                                    have c141b0 : (t306 == t307) = false := beq_eq_false_iff_ne.mpr c141
                                    have c141b1 : (t306 != t307) = true := bne_iff_ne.mpr c141
                                    exact absurd H (by simp)
                                · rw [if_neg c138] at H
                                  have c138b0 : (t304 == t305) = false := beq_eq_false_iff_ne.mpr c138
                                  have c138b1 : (t304 != t305) = true := bne_iff_ne.mpr c138
                                  exact absurd H (by simp)
                              · rw [if_neg c135] at H
                                have c135b0 : (t302 == t303) = false := beq_eq_false_iff_ne.mpr c135
                                have c135b1 : (t302 != t303) = true := bne_iff_ne.mpr c135
                                exact absurd H (by simp)
                            · replace c132 := Bool.eq_false_iff.mpr c132
                              subst c132
                              rw [if_neg (show ¬ (false = true) by decide)] at H
                              exact absurd H (by simp)
              · replace c54 := Bool.eq_false_iff.mpr c54
                subst c54
                rw [if_neg (show ¬ (false = true) by decide)] at H
                obtain rfl := Option.some.inj H
                have hnb164 := NB265_266.out
                have hnc164 := NB266_265.out
                have hnb165 := NB265_267.out
                have hnc165 := NB267_265.out
                have hcz166_0 := bc BK265 0
                have hcz166_1 := bc BK265 1
                have hcz166_2 := bc BK265 2
                have hfz166_0 := bf BK265 0
                have hfz166_1 := bf BK265 1
                have hfz166_2 := bf BK265 2
                go_wp2_with (first | (refine gL (some 65) Try.func14 #[.agg #[.slice A0_0 l0_0.length c0_0, .bool a0_1, .int .i64 a0_2]] ?_; (with_reducible refine (epactref09_Right.calls kj27 _ _ l0_0 a0_1 a0_2 false _ ?side1 ?side2 A53.out).mono ?_); (case side1 => exact cb HR0_0 HB); (case side2 => exact HC0_0.out); rintro e w167 ⟨rfl, hb⟩; refine ⟨_, rfl, ?_⟩; replace BK265 := kb BK265 hb; replace BK266 := kb BK266 hb; replace BK267 := kb BK267 hb; replace HB := bs HB hb; (try clear hb); (try clear hb2); (try clear hk); (try clear hi)))
                go_ret
                exact fi HB

end Go.Proofs.Ytfmibhepehhljaa.PAll
