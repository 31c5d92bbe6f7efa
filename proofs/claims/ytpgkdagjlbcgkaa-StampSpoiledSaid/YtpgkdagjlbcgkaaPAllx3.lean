-- Written for this claim by wip/tools of this repo (after the kit's print; own contracts laid in).
import Derived.Test.YtpgkdagjlbcgkaaPAllx0
import Derived.Test.YtpgkdagjlbcgkaaPAllx1
import Derived.Test.YtpgkdagjlbcgkaaPAllx2
namespace Go.Proofs.Ytpgkdagjlbcgkaa.PAll
open Go.RowKit Go.Proofs.YtpgkdagjlbcgkaaW.PrintWords Go.Proofs.YtpgkdagjlbcgkaaW.PrintLast Go.Proofs.YtpgkdagjlbcgkaaW.PrintMore
attribute [local go_sem] max2_int min2_int max_two min_two max_three min_three max_four min_four   -- for this text's walks alone
set_option linter.unusedVariables false
set_option linter.unusedSimpArgs false

/-! ### epactlaw04_small: function 8 -/
def epactlaw04_small.f (k : Nat)  : Option (Bool) := (stamp_Text.f k 17166 86400).bind fun bt132 => ((stamp_Parse.f k (⟨#[49, 57, 55, 50, 45, 48, 54, 45, 51, 48, 84, 50, 51, 58, 53, 57, 58, 53, 57, 90]⟩ : ByteArray)).bind fun bt134 => ((stamp_Parse.f k (⟨#[49, 57, 55, 50, 45, 48, 54, 45, 51, 49, 84, 48, 48, 58, 48, 48, 58, 48, 48, 90]⟩ : ByteArray)).bind fun bt137 => ((stamp_Parse.f k (⟨#[49, 57, 55, 50, 45, 48, 54, 45, 51, 48, 84, 50, 50, 58, 53, 57, 58, 54, 48, 90]⟩ : ByteArray)).bind fun bt140 => ((stamp_Text.f k 0 (-1)).bind fun bt143 => ((stamp_Day.f k (-719162)).bind fun bt145 => ((stamp_Clock.f k 3661).bind fun bt147 => ((stamp_Second.f k 23 59 60).bind fun bt151 => ((stamp_Second.f k 0 0 60).bind fun bt153 => (if bt132.1.toList = ([50, 48, 49, 54, 45, 49, 50, 45, 51, 49, 84, 50, 51, 58, 53, 57, 58, 54, 48, 90] : List UInt8) then (if bt132.2 = true then (if bt134.1 = 911 then (if bt134.2.1 = 86399 then (if bt134.2.2 = true then (if bt137.2.2 = true then (none) else (if bt140.2.2 = true then (none) else (if bt143.2 = true then (none) else (if bt145.1.toList = ([48, 48, 48, 49, 45, 48, 49, 45, 48, 49] : List UInt8) then (if bt145.2 = true then (if bt147.1 = 1 then (if bt147.2.1 = 1 then (if bt147.2.2.1 = 1 then (if bt147.2.2.2 = true then (if bt151.1 = 86400 then (if bt151.2 = true then (some (!bt153.2)) else (none)) else (none)) else (none)) else (none)) else (none)) else (none)) else (none)) else (none))))) else (none)) else (none)) else (none)) else (none)) else (none))))))))))
theorem epactlaw04_small.mono : ∀ k, LeO (epactlaw04_small.f k ) (epactlaw04_small.f (k + 1) ) := by
  intro  k
  unfold epactlaw04_small.f
  repeat' first
      | (with_reducible exact stamp_Clock.mono _ _)
      | (with_reducible exact stamp_Day.mono _ _)
      | (with_reducible exact stamp_Parse.mono _ _)
      | (with_reducible exact stamp_Second.mono _ _ _ _)
      | (with_reducible exact stamp_Text.mono _ _ _)
      | (with_reducible exact LeO.refl _)
      | (with_reducible exact LeO.none _)
      | (with_reducible refine LeO.ite ?_ ?_)
      | (with_reducible refine LeO.bind ?_ (fun _ => ?_))
      | exact stamp_Clock.mono _ _
      | exact stamp_Day.mono _ _
      | exact stamp_Parse.mono _ _
      | exact stamp_Second.mono _ _ _ _
      | exact stamp_Text.mono _ _ _
      | exact LeO.none _
      | refine LeO.ite ?_ ?_
      | refine LeO.bind ?_ (fun _ => ?_)
set_option maxHeartbeats 8000000 in
set_option maxRecDepth 100000 in
theorem epactlaw04_small.calls (k : Nat)  (r : Bool) (w : World) (h : epactlaw04_small.f k  = some r) :
    Calls Try.prog 8 #[] w fun e w' => e = .returned (.bool r) ∧ Below w.heap.size w w' := by
  have HB := Aside0.mk (Below.refl w.heap.size w)
  have H : ((stamp_Text.f k 17166 86400).bind fun bt132 => ((stamp_Parse.f k (⟨#[49, 57, 55, 50, 45, 48, 54, 45, 51, 48, 84, 50, 51, 58, 53, 57, 58, 53, 57, 90]⟩ : ByteArray)).bind fun bt134 => ((stamp_Parse.f k (⟨#[49, 57, 55, 50, 45, 48, 54, 45, 51, 49, 84, 48, 48, 58, 48, 48, 58, 48, 48, 90]⟩ : ByteArray)).bind fun bt137 => ((stamp_Parse.f k (⟨#[49, 57, 55, 50, 45, 48, 54, 45, 51, 48, 84, 50, 50, 58, 53, 57, 58, 54, 48, 90]⟩ : ByteArray)).bind fun bt140 => ((stamp_Text.f k 0 (-1)).bind fun bt143 => ((stamp_Day.f k (-719162)).bind fun bt145 => ((stamp_Clock.f k 3661).bind fun bt147 => ((stamp_Second.f k 23 59 60).bind fun bt151 => ((stamp_Second.f k 0 0 60).bind fun bt153 => (if bt132.1.toList = ([50, 48, 49, 54, 45, 49, 50, 45, 51, 49, 84, 50, 51, 58, 53, 57, 58, 54, 48, 90] : List UInt8) then (if bt132.2 = true then (if bt134.1 = 911 then (if bt134.2.1 = 86399 then (if bt134.2.2 = true then (if bt137.2.2 = true then (none) else (if bt140.2.2 = true then (none) else (if bt143.2 = true then (none) else (if bt145.1.toList = ([48, 48, 48, 49, 45, 48, 49, 45, 48, 49] : List UInt8) then (if bt145.2 = true then (if bt147.1 = 1 then (if bt147.2.1 = 1 then (if bt147.2.2.1 = 1 then (if bt147.2.2.2 = true then (if bt151.1 = 86400 then (if bt151.2 = true then (some (!bt153.2)) else (none)) else (none)) else (none)) else (none)) else (none)) else (none)) else (none)) else (none))))) else (none)) else (none)) else (none)) else (none)) else (none))))))))))) = some r := h
  clear h
  replace H := Option.bind_eq_some_iff.mp H
  obtain ⟨⟨t132, t133⟩, A10, H⟩ := H
  replace H : ((stamp_Parse.f k (⟨#[49, 57, 55, 50, 45, 48, 54, 45, 51, 48, 84, 50, 51, 58, 53, 57, 58, 53, 57, 90]⟩ : ByteArray)).bind fun bt134 => ((stamp_Parse.f k (⟨#[49, 57, 55, 50, 45, 48, 54, 45, 51, 49, 84, 48, 48, 58, 48, 48, 58, 48, 48, 90]⟩ : ByteArray)).bind fun bt137 => ((stamp_Parse.f k (⟨#[49, 57, 55, 50, 45, 48, 54, 45, 51, 48, 84, 50, 50, 58, 53, 57, 58, 54, 48, 90]⟩ : ByteArray)).bind fun bt140 => ((stamp_Text.f k 0 (-1)).bind fun bt143 => ((stamp_Day.f k (-719162)).bind fun bt145 => ((stamp_Clock.f k 3661).bind fun bt147 => ((stamp_Second.f k 23 59 60).bind fun bt151 => ((stamp_Second.f k 0 0 60).bind fun bt153 => (if t132.toList = ([50, 48, 49, 54, 45, 49, 50, 45, 51, 49, 84, 50, 51, 58, 53, 57, 58, 54, 48, 90] : List UInt8) then (if t133 = true then (if bt134.1 = 911 then (if bt134.2.1 = 86399 then (if bt134.2.2 = true then (if bt137.2.2 = true then (none) else (if bt140.2.2 = true then (none) else (if bt143.2 = true then (none) else (if bt145.1.toList = ([48, 48, 48, 49, 45, 48, 49, 45, 48, 49] : List UInt8) then (if bt145.2 = true then (if bt147.1 = 1 then (if bt147.2.1 = 1 then (if bt147.2.2.1 = 1 then (if bt147.2.2.2 = true then (if bt151.1 = 86400 then (if bt151.2 = true then (some (!bt153.2)) else (none)) else (none)) else (none)) else (none)) else (none)) else (none)) else (none)) else (none))))) else (none)) else (none)) else (none)) else (none)) else (none)))))))))) = some r := H
  have A1 := Aside0.mk A10
  clear A10
  replace H := Option.bind_eq_some_iff.mp H
  obtain ⟨⟨t134, t135, t136⟩, A20, H⟩ := H
  replace H : ((stamp_Parse.f k (⟨#[49, 57, 55, 50, 45, 48, 54, 45, 51, 49, 84, 48, 48, 58, 48, 48, 58, 48, 48, 90]⟩ : ByteArray)).bind fun bt137 => ((stamp_Parse.f k (⟨#[49, 57, 55, 50, 45, 48, 54, 45, 51, 48, 84, 50, 50, 58, 53, 57, 58, 54, 48, 90]⟩ : ByteArray)).bind fun bt140 => ((stamp_Text.f k 0 (-1)).bind fun bt143 => ((stamp_Day.f k (-719162)).bind fun bt145 => ((stamp_Clock.f k 3661).bind fun bt147 => ((stamp_Second.f k 23 59 60).bind fun bt151 => ((stamp_Second.f k 0 0 60).bind fun bt153 => (if t132.toList = ([50, 48, 49, 54, 45, 49, 50, 45, 51, 49, 84, 50, 51, 58, 53, 57, 58, 54, 48, 90] : List UInt8) then (if t133 = true then (if t134 = 911 then (if t135 = 86399 then (if t136 = true then (if bt137.2.2 = true then (none) else (if bt140.2.2 = true then (none) else (if bt143.2 = true then (none) else (if bt145.1.toList = ([48, 48, 48, 49, 45, 48, 49, 45, 48, 49] : List UInt8) then (if bt145.2 = true then (if bt147.1 = 1 then (if bt147.2.1 = 1 then (if bt147.2.2.1 = 1 then (if bt147.2.2.2 = true then (if bt151.1 = 86400 then (if bt151.2 = true then (some (!bt153.2)) else (none)) else (none)) else (none)) else (none)) else (none)) else (none)) else (none)) else (none))))) else (none)) else (none)) else (none)) else (none)) else (none))))))))) = some r := H
  have A2 := Aside0.mk A20
  clear A20
  replace H := Option.bind_eq_some_iff.mp H
  obtain ⟨⟨t137, t138, t139⟩, A30, H⟩ := H
  replace H : ((stamp_Parse.f k (⟨#[49, 57, 55, 50, 45, 48, 54, 45, 51, 48, 84, 50, 50, 58, 53, 57, 58, 54, 48, 90]⟩ : ByteArray)).bind fun bt140 => ((stamp_Text.f k 0 (-1)).bind fun bt143 => ((stamp_Day.f k (-719162)).bind fun bt145 => ((stamp_Clock.f k 3661).bind fun bt147 => ((stamp_Second.f k 23 59 60).bind fun bt151 => ((stamp_Second.f k 0 0 60).bind fun bt153 => (if t132.toList = ([50, 48, 49, 54, 45, 49, 50, 45, 51, 49, 84, 50, 51, 58, 53, 57, 58, 54, 48, 90] : List UInt8) then (if t133 = true then (if t134 = 911 then (if t135 = 86399 then (if t136 = true then (if t139 = true then (none) else (if bt140.2.2 = true then (none) else (if bt143.2 = true then (none) else (if bt145.1.toList = ([48, 48, 48, 49, 45, 48, 49, 45, 48, 49] : List UInt8) then (if bt145.2 = true then (if bt147.1 = 1 then (if bt147.2.1 = 1 then (if bt147.2.2.1 = 1 then (if bt147.2.2.2 = true then (if bt151.1 = 86400 then (if bt151.2 = true then (some (!bt153.2)) else (none)) else (none)) else (none)) else (none)) else (none)) else (none)) else (none)) else (none))))) else (none)) else (none)) else (none)) else (none)) else (none)))))))) = some r := H
  have A3 := Aside0.mk A30
  clear A30
  replace H := Option.bind_eq_some_iff.mp H
  obtain ⟨⟨t140, t141, t142⟩, A40, H⟩ := H
  replace H : ((stamp_Text.f k 0 (-1)).bind fun bt143 => ((stamp_Day.f k (-719162)).bind fun bt145 => ((stamp_Clock.f k 3661).bind fun bt147 => ((stamp_Second.f k 23 59 60).bind fun bt151 => ((stamp_Second.f k 0 0 60).bind fun bt153 => (if t132.toList = ([50, 48, 49, 54, 45, 49, 50, 45, 51, 49, 84, 50, 51, 58, 53, 57, 58, 54, 48, 90] : List UInt8) then (if t133 = true then (if t134 = 911 then (if t135 = 86399 then (if t136 = true then (if t139 = true then (none) else (if t142 = true then (none) else (if bt143.2 = true then (none) else (if bt145.1.toList = ([48, 48, 48, 49, 45, 48, 49, 45, 48, 49] : List UInt8) then (if bt145.2 = true then (if bt147.1 = 1 then (if bt147.2.1 = 1 then (if bt147.2.2.1 = 1 then (if bt147.2.2.2 = true then (if bt151.1 = 86400 then (if bt151.2 = true then (some (!bt153.2)) else (none)) else (none)) else (none)) else (none)) else (none)) else (none)) else (none)) else (none))))) else (none)) else (none)) else (none)) else (none)) else (none))))))) = some r := H
  have A4 := Aside0.mk A40
  clear A40
  replace H := Option.bind_eq_some_iff.mp H
  obtain ⟨⟨t143, t144⟩, A50, H⟩ := H
  replace H : ((stamp_Day.f k (-719162)).bind fun bt145 => ((stamp_Clock.f k 3661).bind fun bt147 => ((stamp_Second.f k 23 59 60).bind fun bt151 => ((stamp_Second.f k 0 0 60).bind fun bt153 => (if t132.toList = ([50, 48, 49, 54, 45, 49, 50, 45, 51, 49, 84, 50, 51, 58, 53, 57, 58, 54, 48, 90] : List UInt8) then (if t133 = true then (if t134 = 911 then (if t135 = 86399 then (if t136 = true then (if t139 = true then (none) else (if t142 = true then (none) else (if t144 = true then (none) else (if bt145.1.toList = ([48, 48, 48, 49, 45, 48, 49, 45, 48, 49] : List UInt8) then (if bt145.2 = true then (if bt147.1 = 1 then (if bt147.2.1 = 1 then (if bt147.2.2.1 = 1 then (if bt147.2.2.2 = true then (if bt151.1 = 86400 then (if bt151.2 = true then (some (!bt153.2)) else (none)) else (none)) else (none)) else (none)) else (none)) else (none)) else (none)) else (none))))) else (none)) else (none)) else (none)) else (none)) else (none)))))) = some r := H
  have A5 := Aside0.mk A50
  clear A50
  replace H := Option.bind_eq_some_iff.mp H
  obtain ⟨⟨t145, t146⟩, A60, H⟩ := H
  replace H : ((stamp_Clock.f k 3661).bind fun bt147 => ((stamp_Second.f k 23 59 60).bind fun bt151 => ((stamp_Second.f k 0 0 60).bind fun bt153 => (if t132.toList = ([50, 48, 49, 54, 45, 49, 50, 45, 51, 49, 84, 50, 51, 58, 53, 57, 58, 54, 48, 90] : List UInt8) then (if t133 = true then (if t134 = 911 then (if t135 = 86399 then (if t136 = true then (if t139 = true then (none) else (if t142 = true then (none) else (if t144 = true then (none) else (if t145.toList = ([48, 48, 48, 49, 45, 48, 49, 45, 48, 49] : List UInt8) then (if t146 = true then (if bt147.1 = 1 then (if bt147.2.1 = 1 then (if bt147.2.2.1 = 1 then (if bt147.2.2.2 = true then (if bt151.1 = 86400 then (if bt151.2 = true then (some (!bt153.2)) else (none)) else (none)) else (none)) else (none)) else (none)) else (none)) else (none)) else (none))))) else (none)) else (none)) else (none)) else (none)) else (none))))) = some r := H
  have A6 := Aside0.mk A60
  clear A60
  replace H := Option.bind_eq_some_iff.mp H
  obtain ⟨⟨t147, t148, t149, t150⟩, A70, H⟩ := H
  replace H : ((stamp_Second.f k 23 59 60).bind fun bt151 => ((stamp_Second.f k 0 0 60).bind fun bt153 => (if t132.toList = ([50, 48, 49, 54, 45, 49, 50, 45, 51, 49, 84, 50, 51, 58, 53, 57, 58, 54, 48, 90] : List UInt8) then (if t133 = true then (if t134 = 911 then (if t135 = 86399 then (if t136 = true then (if t139 = true then (none) else (if t142 = true then (none) else (if t144 = true then (none) else (if t145.toList = ([48, 48, 48, 49, 45, 48, 49, 45, 48, 49] : List UInt8) then (if t146 = true then (if t147 = 1 then (if t148 = 1 then (if t149 = 1 then (if t150 = true then (if bt151.1 = 86400 then (if bt151.2 = true then (some (!bt153.2)) else (none)) else (none)) else (none)) else (none)) else (none)) else (none)) else (none)) else (none))))) else (none)) else (none)) else (none)) else (none)) else (none)))) = some r := H
  have A7 := Aside0.mk A70
  clear A70
  replace H := Option.bind_eq_some_iff.mp H
  obtain ⟨⟨t151, t152⟩, A80, H⟩ := H
  replace H : ((stamp_Second.f k 0 0 60).bind fun bt153 => (if t132.toList = ([50, 48, 49, 54, 45, 49, 50, 45, 51, 49, 84, 50, 51, 58, 53, 57, 58, 54, 48, 90] : List UInt8) then (if t133 = true then (if t134 = 911 then (if t135 = 86399 then (if t136 = true then (if t139 = true then (none) else (if t142 = true then (none) else (if t144 = true then (none) else (if t145.toList = ([48, 48, 48, 49, 45, 48, 49, 45, 48, 49] : List UInt8) then (if t146 = true then (if t147 = 1 then (if t148 = 1 then (if t149 = 1 then (if t150 = true then (if t151 = 86400 then (if t152 = true then (some (!bt153.2)) else (none)) else (none)) else (none)) else (none)) else (none)) else (none)) else (none)) else (none))))) else (none)) else (none)) else (none)) else (none)) else (none))) = some r := H
  have A8 := Aside0.mk A80
  clear A80
  replace H := Option.bind_eq_some_iff.mp H
  obtain ⟨⟨t153, t154⟩, A90, H⟩ := H
  replace H : (if t132.toList = ([50, 48, 49, 54, 45, 49, 50, 45, 51, 49, 84, 50, 51, 58, 53, 57, 58, 54, 48, 90] : List UInt8) then (if t133 = true then (if t134 = 911 then (if t135 = 86399 then (if t136 = true then (if t139 = true then (none) else (if t142 = true then (none) else (if t144 = true then (none) else (if t145.toList = ([48, 48, 48, 49, 45, 48, 49, 45, 48, 49] : List UInt8) then (if t146 = true then (if t147 = 1 then (if t148 = 1 then (if t149 = 1 then (if t150 = true then (if t151 = 86400 then (if t152 = true then (some (!t154)) else (none)) else (none)) else (none)) else (none)) else (none)) else (none)) else (none)) else (none))))) else (none)) else (none)) else (none)) else (none)) else (none)) = some r := H
  have A9 := Aside0.mk A90
  clear A90
  by_cases c10 : t132.toList = ([50, 48, 49, 54, 45, 49, 50, 45, 51, 49, 84, 50, 51, 58, 53, 57, 58, 54, 48, 90] : List UInt8)
  · rw [if_pos c10] at H
    have c10b0 : (t132.toList == ([50, 48, 49, 54, 45, 49, 50, 45, 51, 49, 84, 50, 51, 58, 53, 57, 58, 54, 48, 90] : List UInt8)) = true := beq_iff_eq.mpr c10
    have c10b1 : (t132.toList != ([50, 48, 49, 54, 45, 49, 50, 45, 51, 49, 84, 50, 51, 58, 53, 57, 58, 54, 48, 90] : List UInt8)) = false := bne_eq_false_iff_eq.mpr c10
    clear c10
    by_cases c11 : t133 = true
    · subst c11
      have H1 : (if t134 = 911 then (if t135 = 86399 then (if t136 = true then (if t139 = true then (none) else (if t142 = true then (none) else (if t144 = true then (none) else (if t145.toList = ([48, 48, 48, 49, 45, 48, 49, 45, 48, 49] : List UInt8) then (if t146 = true then (if t147 = 1 then (if t148 = 1 then (if t149 = 1 then (if t150 = true then (if t151 = 86400 then (if t152 = true then (some (!t154)) else (none)) else (none)) else (none)) else (none)) else (none)) else (none)) else (none)) else (none))))) else (none)) else (none)) else (none)) = some r := by rw [if_pos rfl] at H; exact H
      clear H
      have H := H1
      clear H1
      by_cases c12 : t134 = 911
      · rw [if_pos c12] at H
        have c12b0 : (t134 == 911) = true := beq_iff_eq.mpr c12
        have c12b1 : (t134 != 911) = false := bne_eq_false_iff_eq.mpr c12
        clear c12
        by_cases c13 : t135 = 86399
        · rw [if_pos c13] at H
          have c13b0 : (t135 == 86399) = true := beq_iff_eq.mpr c13
          have c13b1 : (t135 != 86399) = false := bne_eq_false_iff_eq.mpr c13
          clear c13
          by_cases c14 : t136 = true
          · subst c14
            have H1 : (if t139 = true then (none) else (if t142 = true then (none) else (if t144 = true then (none) else (if t145.toList = ([48, 48, 48, 49, 45, 48, 49, 45, 48, 49] : List UInt8) then (if t146 = true then (if t147 = 1 then (if t148 = 1 then (if t149 = 1 then (if t150 = true then (if t151 = 86400 then (if t152 = true then (some (!t154)) else (none)) else (none)) else (none)) else (none)) else (none)) else (none)) else (none)) else (none))))) = some r := by rw [if_pos rfl] at H; exact H
            clear H
            have H := H1
            clear H1
            by_cases c15 : t139 = true
            · subst c15
              have H1 : (none) = some r := by rw [if_pos rfl] at H; exact H
              clear H
              have H := H1
              clear H1
              exact absurd H (by simp)
            · replace c15 := Bool.eq_false_iff.mpr c15
              subst c15
              have H1 : (if t142 = true then (none) else (if t144 = true then (none) else (if t145.toList = ([48, 48, 48, 49, 45, 48, 49, 45, 48, 49] : List UInt8) then (if t146 = true then (if t147 = 1 then (if t148 = 1 then (if t149 = 1 then (if t150 = true then (if t151 = 86400 then (if t152 = true then (some (!t154)) else (none)) else (none)) else (none)) else (none)) else (none)) else (none)) else (none)) else (none)))) = some r := by rw [if_neg (show ¬ (false = true) by decide)] at H; exact H
              clear H
              have H := H1
              clear H1
              by_cases c16 : t142 = true
              · subst c16
                have H1 : (none) = some r := by rw [if_pos rfl] at H; exact H
                clear H
                have H := H1
                clear H1
                exact absurd H (by simp)
              · replace c16 := Bool.eq_false_iff.mpr c16
                subst c16
                have H1 : (if t144 = true then (none) else (if t145.toList = ([48, 48, 48, 49, 45, 48, 49, 45, 48, 49] : List UInt8) then (if t146 = true then (if t147 = 1 then (if t148 = 1 then (if t149 = 1 then (if t150 = true then (if t151 = 86400 then (if t152 = true then (some (!t154)) else (none)) else (none)) else (none)) else (none)) else (none)) else (none)) else (none)) else (none))) = some r := by rw [if_neg (show ¬ (false = true) by decide)] at H; exact H
                clear H
                have H := H1
                clear H1
                by_cases c17 : t144 = true
                · subst c17
                  have H1 : (none) = some r := by rw [if_pos rfl] at H; exact H
                  clear H
                  have H := H1
                  clear H1
                  exact absurd H (by simp)
                · replace c17 := Bool.eq_false_iff.mpr c17
                  subst c17
                  have H1 : (if t145.toList = ([48, 48, 48, 49, 45, 48, 49, 45, 48, 49] : List UInt8) then (if t146 = true then (if t147 = 1 then (if t148 = 1 then (if t149 = 1 then (if t150 = true then (if t151 = 86400 then (if t152 = true then (some (!t154)) else (none)) else (none)) else (none)) else (none)) else (none)) else (none)) else (none)) else (none)) = some r := by rw [if_neg (show ¬ (false = true) by decide)] at H; exact H
                  clear H
                  have H := H1
                  clear H1
                  by_cases c18 : t145.toList = ([48, 48, 48, 49, 45, 48, 49, 45, 48, 49] : List UInt8)
                  · rw [if_pos c18] at H
                    have c18b0 : (t145.toList == ([48, 48, 48, 49, 45, 48, 49, 45, 48, 49] : List UInt8)) = true := beq_iff_eq.mpr c18
                    have c18b1 : (t145.toList != ([48, 48, 48, 49, 45, 48, 49, 45, 48, 49] : List UInt8)) = false := bne_eq_false_iff_eq.mpr c18
                    clear c18
                    by_cases c19 : t146 = true
                    · subst c19
                      have H1 : (if t147 = 1 then (if t148 = 1 then (if t149 = 1 then (if t150 = true then (if t151 = 86400 then (if t152 = true then (some (!t154)) else (none)) else (none)) else (none)) else (none)) else (none)) else (none)) = some r := by rw [if_pos rfl] at H; exact H
                      clear H
                      have H := H1
                      clear H1
                      by_cases c20 : t147 = 1
                      · rw [if_pos c20] at H
                        have c20b0 : (t147 == 1) = true := beq_iff_eq.mpr c20
                        have c20b1 : (t147 != 1) = false := bne_eq_false_iff_eq.mpr c20
                        clear c20
                        by_cases c21 : t148 = 1
                        · rw [if_pos c21] at H
                          have c21b0 : (t148 == 1) = true := beq_iff_eq.mpr c21
                          have c21b1 : (t148 != 1) = false := bne_eq_false_iff_eq.mpr c21
                          clear c21
                          by_cases c22 : t149 = 1
                          · rw [if_pos c22] at H
                            have c22b0 : (t149 == 1) = true := beq_iff_eq.mpr c22
                            have c22b1 : (t149 != 1) = false := bne_eq_false_iff_eq.mpr c22
                            clear c22
                            by_cases c23 : t150 = true
                            · subst c23
                              have H1 : (if t151 = 86400 then (if t152 = true then (some (!t154)) else (none)) else (none)) = some r := by rw [if_pos rfl] at H; exact H
                              clear H
                              have H := H1
                              clear H1
                              by_cases c24 : t151 = 86400
                              · rw [if_pos c24] at H
                                have c24b0 : (t151 == 86400) = true := beq_iff_eq.mpr c24
                                have c24b1 : (t151 != 86400) = false := bne_eq_false_iff_eq.mpr c24
                                clear c24
                                by_cases c25 : t152 = true
                                · subst c25
                                  have H1 : (some (!t154)) = some r := by rw [if_pos rfl] at H; exact H
                                  clear H
                                  have H := H1
                                  clear H1
                                  obtain rfl := Option.some.inj H
                                  go_enter Try.func8, Try.ntmps8
                                  go_wp2_with (first | ((with_reducible refine gate_callee (f := 13) rfl ?_); refine goesL_ (some 25) rfl rfl Try.func13 (by kernel_rfl) rfl #[.int .i64 17166, .int .i64 86400] rfl (by (try simp only [List.map_toArray, List.map_cons, List.map_nil]); first | done | rfl | (simp only [List.length_drop, List.length_take]; rfl)) ?_; (with_reducible refine (stamp_Text.calls k 17166 86400 t132 true _ A1.out).mono ?_); rintro e w26 ⟨rfl, hb⟩; refine ⟨_, rfl, ?_⟩; have n0_ := Aside0.mk (below_step (by repeat (first | (with_reducible first | exact HB.out | apply below_alloc | apply pw_below_drewN | apply below_drew1) | exact HB.out)) hb); clear HB; have HB := n0_; clear n0_; (try clear hb); (try clear hb2); (try clear hk); (try clear hi)) | ((with_reducible refine gate_callee (f := 15) rfl ?_); refine goesL_ (some 29) rfl rfl Try.func15 (by kernel_rfl) rfl #[.string (⟨#[49, 57, 55, 50, 45, 48, 54, 45, 51, 48, 84, 50, 51, 58, 53, 57, 58, 53, 57, 90]⟩ : ByteArray)] rfl (by (try simp only [List.map_toArray, List.map_cons, List.map_nil]); first | done | rfl | (simp only [List.length_drop, List.length_take]; rfl)) ?_; (with_reducible refine (stamp_Parse.calls k (⟨#[49, 57, 55, 50, 45, 48, 54, 45, 51, 48, 84, 50, 51, 58, 53, 57, 58, 53, 57, 90]⟩ : ByteArray) t134 t135 true _ A2.out).mono ?_); rintro e w27 ⟨rfl, hb⟩; refine ⟨_, rfl, ?_⟩; have n0_ := Aside0.mk (below_step (by repeat (first | (with_reducible first | exact HB.out | apply below_alloc | apply pw_below_drewN | apply below_drew1) | exact HB.out)) hb); clear HB; have HB := n0_; clear n0_; (try clear hb); (try clear hb2); (try clear hk); (try clear hi)) | ((with_reducible refine gate_callee (f := 15) rfl ?_); refine goesL_ (some 34) rfl rfl Try.func15 (by kernel_rfl) rfl #[.string (⟨#[49, 57, 55, 50, 45, 48, 54, 45, 51, 49, 84, 48, 48, 58, 48, 48, 58, 48, 48, 90]⟩ : ByteArray)] rfl (by (try simp only [List.map_toArray, List.map_cons, List.map_nil]); first | done | rfl | (simp only [List.length_drop, List.length_take]; rfl)) ?_; (with_reducible refine (stamp_Parse.calls k (⟨#[49, 57, 55, 50, 45, 48, 54, 45, 51, 49, 84, 48, 48, 58, 48, 48, 58, 48, 48, 90]⟩ : ByteArray) t137 t138 false _ A3.out).mono ?_); rintro e w28 ⟨rfl, hb⟩; refine ⟨_, rfl, ?_⟩; have n0_ := Aside0.mk (below_step (by repeat (first | (with_reducible first | exact HB.out | apply below_alloc | apply pw_below_drewN | apply below_drew1) | exact HB.out)) hb); clear HB; have HB := n0_; clear n0_; (try clear hb); (try clear hb2); (try clear hk); (try clear hi)) | ((with_reducible refine gate_callee (f := 15) rfl ?_); refine goesL_ (some 39) rfl rfl Try.func15 (by kernel_rfl) rfl #[.string (⟨#[49, 57, 55, 50, 45, 48, 54, 45, 51, 48, 84, 50, 50, 58, 53, 57, 58, 54, 48, 90]⟩ : ByteArray)] rfl (by (try simp only [List.map_toArray, List.map_cons, List.map_nil]); first | done | rfl | (simp only [List.length_drop, List.length_take]; rfl)) ?_; (with_reducible refine (stamp_Parse.calls k (⟨#[49, 57, 55, 50, 45, 48, 54, 45, 51, 48, 84, 50, 50, 58, 53, 57, 58, 54, 48, 90]⟩ : ByteArray) t140 t141 false _ A4.out).mono ?_); rintro e w29 ⟨rfl, hb⟩; refine ⟨_, rfl, ?_⟩; have n0_ := Aside0.mk (below_step (by repeat (first | (with_reducible first | exact HB.out | apply below_alloc | apply pw_below_drewN | apply below_drew1) | exact HB.out)) hb); clear HB; have HB := n0_; clear n0_; (try clear hb); (try clear hb2); (try clear hk); (try clear hi)) | ((with_reducible refine gate_callee (f := 13) rfl ?_); refine goesL_ (some 44) rfl rfl Try.func13 (by kernel_rfl) rfl #[.int .i64 0, .int .i64 (-1)] rfl (by (try simp only [List.map_toArray, List.map_cons, List.map_nil]); first | done | rfl | (simp only [List.length_drop, List.length_take]; rfl)) ?_; (with_reducible refine (stamp_Text.calls k 0 (-1) t143 false _ A5.out).mono ?_); rintro e w30 ⟨rfl, hb⟩; refine ⟨_, rfl, ?_⟩; have n0_ := Aside0.mk (below_step (by repeat (first | (with_reducible first | exact HB.out | apply below_alloc | apply pw_below_drewN | apply below_drew1) | exact HB.out)) hb); clear HB; have HB := n0_; clear n0_; (try clear hb); (try clear hb2); (try clear hk); (try clear hi)) | ((with_reducible refine gate_callee (f := 17) rfl ?_); refine goesL_ (some 48) rfl rfl Try.func17 (by kernel_rfl) rfl #[.int .i64 (-719162)] rfl (by (try simp only [List.map_toArray, List.map_cons, List.map_nil]); first | done | rfl | (simp only [List.length_drop, List.length_take]; rfl)) ?_; (with_reducible refine (stamp_Day.calls k (-719162) t145 true _ A6.out).mono ?_); rintro e w31 ⟨rfl, hb⟩; refine ⟨_, rfl, ?_⟩; have n0_ := Aside0.mk (below_step (by repeat (first | (with_reducible first | exact HB.out | apply below_alloc | apply pw_below_drewN | apply below_drew1) | exact HB.out)) hb); clear HB; have HB := n0_; clear n0_; (try clear hb); (try clear hb2); (try clear hk); (try clear hi)) | ((with_reducible refine gate_callee (f := 9) rfl ?_); refine goesL_ (some 52) rfl rfl Try.func9 (by kernel_rfl) rfl #[.int .i64 3661] rfl (by (try simp only [List.map_toArray, List.map_cons, List.map_nil]); first | done | rfl | (simp only [List.length_drop, List.length_take]; rfl)) ?_; (with_reducible refine (stamp_Clock.calls k 3661 t147 t148 t149 true _ A7.out).mono ?_); rintro e w' ⟨rfl, ⟨nd, rfl⟩⟩; refine ⟨_, rfl, ?_⟩) | ((with_reducible refine gate_callee (f := 11) rfl ?_); refine goesL_ (some 58) rfl rfl Try.func11 (by kernel_rfl) rfl #[.int .i64 23, .int .i64 59, .int .i64 60] rfl (by (try simp only [List.map_toArray, List.map_cons, List.map_nil]); first | done | rfl | (simp only [List.length_drop, List.length_take]; rfl)) ?_; (with_reducible refine (stamp_Second.calls k 23 59 60 t151 true _ A8.out).mono ?_); rintro e w32 ⟨rfl, hb⟩; refine ⟨_, rfl, ?_⟩; have n0_ := Aside0.mk (below_step (by repeat (first | (with_reducible first | exact HB.out | apply below_alloc | apply pw_below_drewN | apply below_drew1) | exact HB.out)) hb); clear HB; have HB := n0_; clear n0_; (try clear hb); (try clear hb2); (try clear hk); (try clear hi)) | ((with_reducible refine gate_callee (f := 11) rfl ?_); refine goesL_ (some 62) rfl rfl Try.func11 (by kernel_rfl) rfl #[.int .i64 0, .int .i64 0, .int .i64 60] rfl (by (try simp only [List.map_toArray, List.map_cons, List.map_nil]); first | done | rfl | (simp only [List.length_drop, List.length_take]; rfl)) ?_; (with_reducible refine (stamp_Second.calls k 0 0 60 t153 t154 _ A9.out).mono ?_); rintro e w33 ⟨rfl, hb⟩; refine ⟨_, rfl, ?_⟩; have n0_ := Aside0.mk (below_step (by repeat (first | (with_reducible first | exact HB.out | apply below_alloc | apply pw_below_drewN | apply below_drew1) | exact HB.out)) hb); clear HB; have HB := n0_; clear n0_; (try clear hb); (try clear hb2); (try clear hk); (try clear hi)))
                                  go_ret
                                  exact ⟨by first | rfl | (simp [errW_none, errW_some] <;> rfl) | (simp [*, errW_none, errW_some] <;> rfl), by repeat (first | (with_reducible first | exact HB.out | apply below_alloc | apply pw_below_drewN | apply below_drew1) | exact HB.out)⟩
                                · replace c25 := Bool.eq_false_iff.mpr c25
                                  subst c25
                                  have H1 : (none) = some r := by rw [if_neg (show ¬ (false = true) by decide)] at H; exact H
                                  clear H
                                  have H := H1
                                  clear H1
                                  exact absurd H (by simp)
                              · rw [if_neg c24] at H
                                exact absurd H (by simp)
                            · replace c23 := Bool.eq_false_iff.mpr c23
                              subst c23
                              have H1 : (none) = some r := by rw [if_neg (show ¬ (false = true) by decide)] at H; exact H
                              clear H
                              have H := H1
                              clear H1
                              exact absurd H (by simp)
                          · rw [if_neg c22] at H
                            exact absurd H (by simp)
                        · rw [if_neg c21] at H
                          exact absurd H (by simp)
                      · rw [if_neg c20] at H
                        exact absurd H (by simp)
                    · replace c19 := Bool.eq_false_iff.mpr c19
                      subst c19
                      have H1 : (none) = some r := by rw [if_neg (show ¬ (false = true) by decide)] at H; exact H
                      clear H
                      have H := H1
                      clear H1
                      exact absurd H (by simp)
                  · rw [if_neg c18] at H
                    exact absurd H (by simp)
          · replace c14 := Bool.eq_false_iff.mpr c14
            subst c14
            have H1 : (none) = some r := by rw [if_neg (show ¬ (false = true) by decide)] at H; exact H
            clear H
            have H := H1
            clear H1
            exact absurd H (by simp)
        · rw [if_neg c13] at H
          exact absurd H (by simp)
      · rw [if_neg c12] at H
        exact absurd H (by simp)
    · replace c11 := Bool.eq_false_iff.mpr c11
      subst c11
      have H1 : (none) = some r := by rw [if_neg (show ¬ (false = true) by decide)] at H; exact H
      clear H
      have H := H1
      clear H1
      exact absurd H (by simp)
  · rw [if_neg c10] at H
    exact absurd H (by simp)

/-! ### epactref04_Clock: function 10 -/
def epactref04_Clock.j0 : Nat → Int → Bool → Option (Int × Int × Int × Bool)
  | 0, _, _ => none
  | k + 1, x0, x11 => if x11 = true then (some (0, 0, 0, false)) else (if x0 = 86400 then (some (23, 59, 60, true)) else (some (wrap64 (Int.tdiv x0 3600), Int.tmod (wrap64 (Int.tdiv x0 60)) 60, Int.tmod x0 60, true)))
def epactref04_Clock.f (k : Nat) (a0 : Int) : Option (Int × Int × Int × Bool) := if a0 < 0 then (epactref04_Clock.j0 k a0 true) else (epactref04_Clock.j0 k a0 (decide (a0 > 86400)))
theorem epactref04_Clock.mono_l : ∀ k, (∀ y0 y1, LeO (epactref04_Clock.j0 k y0 y1) (epactref04_Clock.j0 (k + 1) y0 y1))
  | 0 => fun _ _ r h => by simp [epactref04_Clock.j0] at h
  | k + 1 => by
    have ih0 := epactref04_Clock.mono_l k
    · intro y0 y1
      unfold epactref04_Clock.j0
      repeat' first
      | (with_reducible exact ih0 _ _)
      | (with_reducible exact LeO.refl _)
      | (with_reducible exact LeO.none _)
      | (with_reducible refine LeO.ite ?_ ?_)
      | (with_reducible refine LeO.bind ?_ (fun _ => ?_))
      | exact ih0 _ _
      | exact LeO.none _
      | refine LeO.ite ?_ ?_
      | refine LeO.bind ?_ (fun _ => ?_)
theorem epactref04_Clock.mono : ∀ a0 k, LeO (epactref04_Clock.f k a0) (epactref04_Clock.f (k + 1) a0) := by
  intro a0 k
  have ih0 := epactref04_Clock.mono_l k
  unfold epactref04_Clock.f
  repeat' first
      | (with_reducible exact ih0 _ _)
      | (with_reducible exact LeO.refl _)
      | (with_reducible exact LeO.none _)
      | (with_reducible refine LeO.ite ?_ ?_)
      | (with_reducible refine LeO.bind ?_ (fun _ => ?_))
      | exact ih0 _ _
      | exact LeO.none _
      | refine LeO.ite ?_ ?_
      | refine LeO.bind ?_ (fun _ => ?_)
set_option maxHeartbeats 8000000 in
set_option maxRecDepth 100000 in
theorem epactref04_Clock.calls (k : Nat) (a0 : Int) (r1 : Int) (r2 : Int) (r3 : Int) (r4 : Bool) (w : World) (h : epactref04_Clock.f k a0 = some (r1, r2, r3, r4)) :
    Calls Try.prog 10 #[.int .i64 a0] w fun e w' => e = .returned (.tuple #[.int .i64 r1, .int .i64 r2, .int .i64 r3, .bool r4]) ∧ Drawn0 w w' := by
  have H : (if a0 < 0 then (epactref04_Clock.j0 k a0 true) else (epactref04_Clock.j0 k a0 (decide (a0 > 86400)))) = some (r1, r2, r3, r4) := h
  clear h
  have HC2 := Aside0.mk H
  clear H
  go_enter Try.func10, Try.ntmps10
  go_upto_region 1 with (fail)
  go_cut [11] (fun v11 wc => ∃ (kq : Nat) (x11_1 : Bool), v11 = .bool x11_1 ∧ Aside0 (epactref04_Clock.j0 kq a0 x11_1 = some (r1, r2, r3, r4)) ∧ Aside0 (kq ≤ k) ∧ Drawn0 w wc)
  case first =>
    have H := HC2.out
    clear HC2
    by_cases c3 : a0 < 0
    · rw [if_pos c3] at H
      have c3b0 : decide (a0 < 0) = true := decide_eq_true c3
      clear c3
      (first | rw [c3b0] | (simp only [i64_w, i32_w]; rw [c3b0]) | skip)
      have H' := Aside0.mk H
      clear H
      go_wp2
      go_meet
      case rel => exact ⟨_, (true), (by first | rfl | (simp; done) | (simp [*]; done)), H', ⟨by first | omega | exact Nat.le_refl _⟩, by repeat (first | exact Drawn0.refl _ | apply Drawn0.step)⟩
    · rw [if_neg c3] at H
      have c3b0 : decide (a0 < 0) = false := decide_eq_false c3
      clear c3
      (first | rw [c3b0] | (simp only [i64_w, i32_w]; rw [c3b0]) | skip)
      have H' := Aside0.mk H
      clear H
      go_wp2
      go_meet
      case rel => exact ⟨_, (decide (a0 > 86400)), (by first | rfl | (simp; done) | (simp [*]; done)), H', ⟨by first | omega | exact Nat.le_refl _⟩, by repeat (first | exact Drawn0.refl _ | apply Drawn0.step)⟩
  case rest =>
    clear HC2
    try clear c1
    try clear p2
    try clear c3
    try clear c3b0
    obtain ⟨kq, x11_1, rfl, HA, HJ1, ⟨mc1, rfl⟩⟩ := hcut
    cases kq with
    | zero => exact absurd HA.out (by simp [epactref04_Clock.j0])
    | succ kj1 =>
      have H := HA.out
      clear HA
      simp only [epactref04_Clock.j0] at H
      by_cases c4 : x11_1 = true
      · subst c4
        have H1 : (some (0, 0, 0, false)) = some (r1, r2, r3, r4) := by rw [if_pos rfl] at H; exact H
        clear H
        have H := H1
        clear H1
        simp only [Option.some.injEq, Prod.mk.injEq] at H
        obtain ⟨rfl, rfl, rfl, rfl⟩ := H
        go_wp2
        refine bodyPost_ret (results_list (rs := [.tmp 2, .tmp 3, .tmp 4, .tmp 5]) rfl (by simp) (.tmp (.tmp (.tmp (.tmp .nil))))) rfl ?_
        exact ⟨by first | rfl | (simp; done) | (simp [*]; done), by repeat (first | exact Drawn0.refl _ | apply Drawn0.step)⟩
      · replace c4 := Bool.eq_false_iff.mpr c4
        subst c4
        have H1 : (if a0 = 86400 then (some (23, 59, 60, true)) else (some (wrap64 (Int.tdiv a0 3600), Int.tmod (wrap64 (Int.tdiv a0 60)) 60, Int.tmod a0 60, true))) = some (r1, r2, r3, r4) := by rw [if_neg (show ¬ (false = true) by decide)] at H; exact H
        clear H
        have H := H1
        clear H1
        by_cases c5 : a0 = 86400
        · rw [if_pos c5] at H
          have c5b0 : (a0 == 86400) = true := beq_iff_eq.mpr c5
          have c5b1 : (a0 != 86400) = false := bne_eq_false_iff_eq.mpr c5
          clear c5
          simp only [Option.some.injEq, Prod.mk.injEq] at H
          obtain ⟨rfl, rfl, rfl, rfl⟩ := H
          go_wp2
          refine bodyPost_ret (results_list (rs := [.tmp 2, .tmp 3, .tmp 4, .tmp 5]) rfl (by simp) (.tmp (.tmp (.tmp (.tmp .nil))))) rfl ?_
          exact ⟨by first | rfl | (simp; done) | (simp [*]; done), by repeat (first | exact Drawn0.refl _ | apply Drawn0.step)⟩
        · rw [if_neg c5] at H
          have c5b0 : (a0 == 86400) = false := beq_eq_false_iff_ne.mpr c5
          have c5b1 : (a0 != 86400) = true := bne_iff_ne.mpr c5
          simp only [Option.some.injEq, Prod.mk.injEq] at H
          obtain ⟨rfl, rfl, rfl, rfl⟩ := H
          go_wp2
          refine bodyPost_ret (results_list (rs := [.tmp 2, .tmp 3, .tmp 4, .tmp 5]) rfl (by simp) (.tmp (.tmp (.tmp (.tmp .nil))))) rfl ?_
          exact ⟨by first | rfl | (simp; done) | (simp [*]; done), by repeat (first | exact Drawn0.refl _ | apply Drawn0.step)⟩

/-! ### epactref04_Second: function 12 -/
def epactref04_Second.f (a0 : Int) (a1 : Int) (a2 : Int) : Option (Int × Bool) := if a0 = 23 then (if a1 = 59 then (if a0 < 0 then (some (0, false)) else (if a0 > 23 then (some (0, false)) else (if a1 < 0 then (some (0, false)) else (if a1 > 59 then (some (0, false)) else (if a2 < 0 then (some (0, false)) else (if a2 > 59 then (if a2 = 60 then (some (wrap64 ((wrap64 ((wrap64 (3600 * a0)) + (wrap64 (60 * a1)))) + a2), true)) else (some (0, false))) else (some (wrap64 ((wrap64 ((wrap64 (3600 * a0)) + (wrap64 (60 * a1)))) + a2), true)))))))) else (if a0 < 0 then (some (0, false)) else (if a0 > 23 then (some (0, false)) else (if a1 < 0 then (some (0, false)) else (if a1 > 59 then (some (0, false)) else (if a2 < 0 then (some (0, false)) else (if a2 > 59 then (some (0, false)) else (some (wrap64 ((wrap64 ((wrap64 (3600 * a0)) + (wrap64 (60 * a1)))) + a2), true))))))))) else (if a0 < 0 then (some (0, false)) else (if a0 > 23 then (some (0, false)) else (if a1 < 0 then (some (0, false)) else (if a1 > 59 then (some (0, false)) else (if a2 < 0 then (some (0, false)) else (if a2 > 59 then (some (0, false)) else (some (wrap64 ((wrap64 ((wrap64 (3600 * a0)) + (wrap64 (60 * a1)))) + a2), true))))))))
set_option maxHeartbeats 8000000 in
set_option maxRecDepth 100000 in
theorem epactref04_Second.calls (a0 : Int) (a1 : Int) (a2 : Int) (r1 : Int) (r2 : Bool) (w : World) (h : epactref04_Second.f a0 a1 a2 = some (r1, r2)) :
    Calls Try.prog 12 #[.int .i64 a0, .int .i64 a1, .int .i64 a2] w fun e w' => e = .returned (.tuple #[.int .i64 r1, .bool r2]) ∧ Drawn0 w w' := by
  have H : (if a0 = 23 then (if a1 = 59 then (if a0 < 0 then (some (0, false)) else (if a0 > 23 then (some (0, false)) else (if a1 < 0 then (some (0, false)) else (if a1 > 59 then (some (0, false)) else (if a2 < 0 then (some (0, false)) else (if a2 > 59 then (if a2 = 60 then (some (wrap64 ((wrap64 ((wrap64 (3600 * a0)) + (wrap64 (60 * a1)))) + a2), true)) else (some (0, false))) else (some (wrap64 ((wrap64 ((wrap64 (3600 * a0)) + (wrap64 (60 * a1)))) + a2), true)))))))) else (if a0 < 0 then (some (0, false)) else (if a0 > 23 then (some (0, false)) else (if a1 < 0 then (some (0, false)) else (if a1 > 59 then (some (0, false)) else (if a2 < 0 then (some (0, false)) else (if a2 > 59 then (some (0, false)) else (some (wrap64 ((wrap64 ((wrap64 (3600 * a0)) + (wrap64 (60 * a1)))) + a2), true))))))))) else (if a0 < 0 then (some (0, false)) else (if a0 > 23 then (some (0, false)) else (if a1 < 0 then (some (0, false)) else (if a1 > 59 then (some (0, false)) else (if a2 < 0 then (some (0, false)) else (if a2 > 59 then (some (0, false)) else (some (wrap64 ((wrap64 ((wrap64 (3600 * a0)) + (wrap64 (60 * a1)))) + a2), true))))))))) = some (r1, r2) := h
  clear h
  by_cases c4 : a0 = 23
  · rw [if_pos c4] at H
    have c4b0 : (a0 == 23) = true := beq_iff_eq.mpr c4
    have c4b1 : (a0 != 23) = false := bne_eq_false_iff_eq.mpr c4
    clear c4
    by_cases c5 : a1 = 59
    · rw [if_pos c5] at H
      have c5b0 : (a1 == 59) = true := beq_iff_eq.mpr c5
      have c5b1 : (a1 != 59) = false := bne_eq_false_iff_eq.mpr c5
      clear c5
      by_cases c6 : a0 < 0
      · rw [if_pos c6] at H
        have c6b0 : decide (a0 < 0) = true := decide_eq_true c6
        clear c6
        simp only [Option.some.injEq, Prod.mk.injEq] at H
        obtain ⟨rfl, rfl⟩ := H
        go_enter Try.func12, Try.ntmps12
        go_wp2
        go_ret2
        exact ⟨by first | rfl | (simp; done) | (simp [*]; done), by repeat (first | exact Drawn0.refl _ | apply Drawn0.step)⟩
      · rw [if_neg c6] at H
        have c6b0 : decide (a0 < 0) = false := decide_eq_false c6
        clear c6
        by_cases c7 : a0 > 23
        · rw [if_pos c7] at H
          have c7b0 : decide (23 < a0) = true := decide_eq_true c7
          clear c7
          simp only [Option.some.injEq, Prod.mk.injEq] at H
          obtain ⟨rfl, rfl⟩ := H
          go_enter Try.func12, Try.ntmps12
          go_wp2
          go_ret2
          exact ⟨by first | rfl | (simp; done) | (simp [*]; done), by repeat (first | exact Drawn0.refl _ | apply Drawn0.step)⟩
        · rw [if_neg c7] at H
          have c7b0 : decide (23 < a0) = false := decide_eq_false c7
          clear c7
          by_cases c8 : a1 < 0
          · rw [if_pos c8] at H
            have c8b0 : decide (a1 < 0) = true := decide_eq_true c8
            clear c8
            simp only [Option.some.injEq, Prod.mk.injEq] at H
            obtain ⟨rfl, rfl⟩ := H
            go_enter Try.func12, Try.ntmps12
            go_wp2
            go_ret2
            exact ⟨by first | rfl | (simp; done) | (simp [*]; done), by repeat (first | exact Drawn0.refl _ | apply Drawn0.step)⟩
          · rw [if_neg c8] at H
            have c8b0 : decide (a1 < 0) = false := decide_eq_false c8
            clear c8
            by_cases c9 : a1 > 59
            · rw [if_pos c9] at H
              have c9b0 : decide (59 < a1) = true := decide_eq_true c9
              clear c9
              simp only [Option.some.injEq, Prod.mk.injEq] at H
              obtain ⟨rfl, rfl⟩ := H
              go_enter Try.func12, Try.ntmps12
              go_wp2
              go_ret2
              exact ⟨by first | rfl | (simp; done) | (simp [*]; done), by repeat (first | exact Drawn0.refl _ | apply Drawn0.step)⟩
            · rw [if_neg c9] at H
              have c9b0 : decide (59 < a1) = false := decide_eq_false c9
              clear c9
              by_cases c10 : a2 < 0
              · rw [if_pos c10] at H
                have c10b0 : decide (a2 < 0) = true := decide_eq_true c10
                clear c10
                simp only [Option.some.injEq, Prod.mk.injEq] at H
                obtain ⟨rfl, rfl⟩ := H
                go_enter Try.func12, Try.ntmps12
                go_wp2
                go_ret2
                exact ⟨by first | rfl | (simp; done) | (simp [*]; done), by repeat (first | exact Drawn0.refl _ | apply Drawn0.step)⟩
              · rw [if_neg c10] at H
                have c10b0 : decide (a2 < 0) = false := decide_eq_false c10
                clear c10
                by_cases c11 : a2 > 59
                · rw [if_pos c11] at H
                  have c11b0 : decide (59 < a2) = true := decide_eq_true c11
                  clear c11
                  by_cases c12 : a2 = 60
                  · rw [if_pos c12] at H
                    have c12b0 : (a2 == 60) = true := beq_iff_eq.mpr c12
                    have c12b1 : (a2 != 60) = false := bne_eq_false_iff_eq.mpr c12
                    clear c12
                    simp only [Option.some.injEq, Prod.mk.injEq] at H
                    obtain ⟨rfl, rfl⟩ := H
                    go_enter Try.func12, Try.ntmps12
                    go_wp2
                    go_ret2
                    exact ⟨by first | rfl | (simp; done) | (simp [*]; done), by repeat (first | exact Drawn0.refl _ | apply Drawn0.step)⟩
                  · rw [if_neg c12] at H
                    have c12b0 : (a2 == 60) = false := beq_eq_false_iff_ne.mpr c12
                    have c12b1 : (a2 != 60) = true := bne_iff_ne.mpr c12
                    simp only [Option.some.injEq, Prod.mk.injEq] at H
                    obtain ⟨rfl, rfl⟩ := H
                    go_enter Try.func12, Try.ntmps12
                    go_wp2
                    go_ret2
                    exact ⟨by first | rfl | (simp; done) | (simp [*]; done), by repeat (first | exact Drawn0.refl _ | apply Drawn0.step)⟩
                · rw [if_neg c11] at H
                  have c11b0 : decide (59 < a2) = false := decide_eq_false c11
                  clear c11
                  simp only [Option.some.injEq, Prod.mk.injEq] at H
                  obtain ⟨rfl, rfl⟩ := H
                  go_enter Try.func12, Try.ntmps12
                  go_wp2
                  go_ret2
                  exact ⟨by first | rfl | (simp; done) | (simp [*]; done), by repeat (first | exact Drawn0.refl _ | apply Drawn0.step)⟩
    · rw [if_neg c5] at H
      have c5b0 : (a1 == 59) = false := beq_eq_false_iff_ne.mpr c5
      have c5b1 : (a1 != 59) = true := bne_iff_ne.mpr c5
      by_cases c13 : a0 < 0
      · rw [if_pos c13] at H
        have c13b0 : decide (a0 < 0) = true := decide_eq_true c13
        clear c13
        simp only [Option.some.injEq, Prod.mk.injEq] at H
        obtain ⟨rfl, rfl⟩ := H
        go_enter Try.func12, Try.ntmps12
        go_wp2
        go_ret2
        exact ⟨by first | rfl | (simp; done) | (simp [*]; done), by repeat (first | exact Drawn0.refl _ | apply Drawn0.step)⟩
      · rw [if_neg c13] at H
        have c13b0 : decide (a0 < 0) = false := decide_eq_false c13
        clear c13
        by_cases c14 : a0 > 23
        · rw [if_pos c14] at H
          have c14b0 : decide (23 < a0) = true := decide_eq_true c14
          clear c14
          simp only [Option.some.injEq, Prod.mk.injEq] at H
          obtain ⟨rfl, rfl⟩ := H
          go_enter Try.func12, Try.ntmps12
          go_wp2
          go_ret2
          exact ⟨by first | rfl | (simp; done) | (simp [*]; done), by repeat (first | exact Drawn0.refl _ | apply Drawn0.step)⟩
        · rw [if_neg c14] at H
          have c14b0 : decide (23 < a0) = false := decide_eq_false c14
          clear c14
          by_cases c15 : a1 < 0
          · rw [if_pos c15] at H
            have c15b0 : decide (a1 < 0) = true := decide_eq_true c15
            clear c15
            simp only [Option.some.injEq, Prod.mk.injEq] at H
            obtain ⟨rfl, rfl⟩ := H
            go_enter Try.func12, Try.ntmps12
            go_wp2
            go_ret2
            exact ⟨by first | rfl | (simp; done) | (simp [*]; done), by repeat (first | exact Drawn0.refl _ | apply Drawn0.step)⟩
          · rw [if_neg c15] at H
            have c15b0 : decide (a1 < 0) = false := decide_eq_false c15
            clear c15
            by_cases c16 : a1 > 59
            · rw [if_pos c16] at H
              have c16b0 : decide (59 < a1) = true := decide_eq_true c16
              clear c16
              simp only [Option.some.injEq, Prod.mk.injEq] at H
              obtain ⟨rfl, rfl⟩ := H
              go_enter Try.func12, Try.ntmps12
              go_wp2
              go_ret2
              exact ⟨by first | rfl | (simp; done) | (simp [*]; done), by repeat (first | exact Drawn0.refl _ | apply Drawn0.step)⟩
            · rw [if_neg c16] at H
              have c16b0 : decide (59 < a1) = false := decide_eq_false c16
              clear c16
              by_cases c17 : a2 < 0
              · rw [if_pos c17] at H
                have c17b0 : decide (a2 < 0) = true := decide_eq_true c17
                clear c17
                simp only [Option.some.injEq, Prod.mk.injEq] at H
                obtain ⟨rfl, rfl⟩ := H
                go_enter Try.func12, Try.ntmps12
                go_wp2
                go_ret2
                exact ⟨by first | rfl | (simp; done) | (simp [*]; done), by repeat (first | exact Drawn0.refl _ | apply Drawn0.step)⟩
              · rw [if_neg c17] at H
                have c17b0 : decide (a2 < 0) = false := decide_eq_false c17
                clear c17
                by_cases c18 : a2 > 59
                · rw [if_pos c18] at H
                  have c18b0 : decide (59 < a2) = true := decide_eq_true c18
                  clear c18
                  simp only [Option.some.injEq, Prod.mk.injEq] at H
                  obtain ⟨rfl, rfl⟩ := H
                  go_enter Try.func12, Try.ntmps12
                  go_wp2
                  go_ret2
                  exact ⟨by first | rfl | (simp; done) | (simp [*]; done), by repeat (first | exact Drawn0.refl _ | apply Drawn0.step)⟩
                · rw [if_neg c18] at H
                  have c18b0 : decide (59 < a2) = false := decide_eq_false c18
                  clear c18
                  simp only [Option.some.injEq, Prod.mk.injEq] at H
                  obtain ⟨rfl, rfl⟩ := H
                  go_enter Try.func12, Try.ntmps12
                  go_wp2
                  go_ret2
                  exact ⟨by first | rfl | (simp; done) | (simp [*]; done), by repeat (first | exact Drawn0.refl _ | apply Drawn0.step)⟩
  · rw [if_neg c4] at H
    have c4b0 : (a0 == 23) = false := beq_eq_false_iff_ne.mpr c4
    have c4b1 : (a0 != 23) = true := bne_iff_ne.mpr c4
    by_cases c19 : a0 < 0
    · rw [if_pos c19] at H
      have c19b0 : decide (a0 < 0) = true := decide_eq_true c19
      clear c19
      simp only [Option.some.injEq, Prod.mk.injEq] at H
      obtain ⟨rfl, rfl⟩ := H
      go_enter Try.func12, Try.ntmps12
      go_wp2
      go_ret2
      exact ⟨by first | rfl | (simp; done) | (simp [*]; done), by repeat (first | exact Drawn0.refl _ | apply Drawn0.step)⟩
    · rw [if_neg c19] at H
      have c19b0 : decide (a0 < 0) = false := decide_eq_false c19
      clear c19
      by_cases c20 : a0 > 23
      · rw [if_pos c20] at H
        have c20b0 : decide (23 < a0) = true := decide_eq_true c20
        clear c20
        simp only [Option.some.injEq, Prod.mk.injEq] at H
        obtain ⟨rfl, rfl⟩ := H
        go_enter Try.func12, Try.ntmps12
        go_wp2
        go_ret2
        exact ⟨by first | rfl | (simp; done) | (simp [*]; done), by repeat (first | exact Drawn0.refl _ | apply Drawn0.step)⟩
      · rw [if_neg c20] at H
        have c20b0 : decide (23 < a0) = false := decide_eq_false c20
        clear c20
        by_cases c21 : a1 < 0
        · rw [if_pos c21] at H
          have c21b0 : decide (a1 < 0) = true := decide_eq_true c21
          clear c21
          simp only [Option.some.injEq, Prod.mk.injEq] at H
          obtain ⟨rfl, rfl⟩ := H
          go_enter Try.func12, Try.ntmps12
          go_wp2
          go_ret2
          exact ⟨by first | rfl | (simp; done) | (simp [*]; done), by repeat (first | exact Drawn0.refl _ | apply Drawn0.step)⟩
        · rw [if_neg c21] at H
          have c21b0 : decide (a1 < 0) = false := decide_eq_false c21
          clear c21
          by_cases c22 : a1 > 59
          · rw [if_pos c22] at H
            have c22b0 : decide (59 < a1) = true := decide_eq_true c22
            clear c22
            simp only [Option.some.injEq, Prod.mk.injEq] at H
            obtain ⟨rfl, rfl⟩ := H
            go_enter Try.func12, Try.ntmps12
            go_wp2
            go_ret2
            exact ⟨by first | rfl | (simp; done) | (simp [*]; done), by repeat (first | exact Drawn0.refl _ | apply Drawn0.step)⟩
          · rw [if_neg c22] at H
            have c22b0 : decide (59 < a1) = false := decide_eq_false c22
            clear c22
            by_cases c23 : a2 < 0
            · rw [if_pos c23] at H
              have c23b0 : decide (a2 < 0) = true := decide_eq_true c23
              clear c23
              simp only [Option.some.injEq, Prod.mk.injEq] at H
              obtain ⟨rfl, rfl⟩ := H
              go_enter Try.func12, Try.ntmps12
              go_wp2
              go_ret2
              exact ⟨by first | rfl | (simp; done) | (simp [*]; done), by repeat (first | exact Drawn0.refl _ | apply Drawn0.step)⟩
            · rw [if_neg c23] at H
              have c23b0 : decide (a2 < 0) = false := decide_eq_false c23
              clear c23
              by_cases c24 : a2 > 59
              · rw [if_pos c24] at H
                have c24b0 : decide (59 < a2) = true := decide_eq_true c24
                clear c24
                simp only [Option.some.injEq, Prod.mk.injEq] at H
                obtain ⟨rfl, rfl⟩ := H
                go_enter Try.func12, Try.ntmps12
                go_wp2
                go_ret2
                exact ⟨by first | rfl | (simp; done) | (simp [*]; done), by repeat (first | exact Drawn0.refl _ | apply Drawn0.step)⟩
              · rw [if_neg c24] at H
                have c24b0 : decide (59 < a2) = false := decide_eq_false c24
                clear c24
                simp only [Option.some.injEq, Prod.mk.injEq] at H
                obtain ⟨rfl, rfl⟩ := H
                go_enter Try.func12, Try.ntmps12
                go_wp2
                go_ret2
                exact ⟨by first | rfl | (simp; done) | (simp [*]; done), by repeat (first | exact Drawn0.refl _ | apply Drawn0.step)⟩

/-! ### epactref04_digits: function 21 -/
def epactref04_digits.l0 : Nat → Int → Int → ByteArray → Int → Option (ByteArray)
  | 0, _, _, _, _ => none
  | k + 1, x0, x1, x5, x6 => if x6 < x1 then ((some (([(wrap64 (48 + (Int.tmod x0 10))) % 256] : List Int) : List Int)).bind fun y155 => (if (strOfNums y155).size + x5.size ≤ 9223372036854775807 then (epactref04_digits.l0 k (wrap64 (Int.tdiv x0 10)) x1 ((strOfNums y155) ++ x5) (wrap64 (x6 + 1))) else (none))) else (some x5)
def epactref04_digits.f (k : Nat) (a0 : Int) (a1 : Int) : Option (ByteArray) := epactref04_digits.l0 k a0 a1 (⟨#[]⟩ : ByteArray) 0
theorem epactref04_digits.mono_l : ∀ k, (∀ y0 y1 y2 y3, LeO (epactref04_digits.l0 k y0 y1 y2 y3) (epactref04_digits.l0 (k + 1) y0 y1 y2 y3))
  | 0 => fun _ _ _ _ r h => by simp [epactref04_digits.l0] at h
  | k + 1 => by
    have ih0 := epactref04_digits.mono_l k
    · intro y0 y1 y2 y3
      unfold epactref04_digits.l0
      repeat' first
      | (with_reducible exact ih0 _ _ _ _)
      | (with_reducible exact LeO.refl _)
      | (with_reducible exact LeO.none _)
      | (with_reducible refine LeO.ite ?_ ?_)
      | (with_reducible refine LeO.bind ?_ (fun _ => ?_))
      | exact ih0 _ _ _ _
      | exact LeO.none _
      | refine LeO.ite ?_ ?_
      | refine LeO.bind ?_ (fun _ => ?_)
theorem epactref04_digits.mono : ∀ a0 a1 k, LeO (epactref04_digits.f k a0 a1) (epactref04_digits.f (k + 1) a0 a1) := by
  intro a0 a1 k
  have ih0 := epactref04_digits.mono_l k
  unfold epactref04_digits.f
  repeat' first
      | (with_reducible exact ih0 _ _ _ _)
      | (with_reducible exact LeO.refl _)
      | (with_reducible exact LeO.none _)
      | (with_reducible refine LeO.ite ?_ ?_)
      | (with_reducible refine LeO.bind ?_ (fun _ => ?_))
      | exact ih0 _ _ _ _
      | exact LeO.none _
      | refine LeO.ite ?_ ?_
      | refine LeO.bind ?_ (fun _ => ?_)
set_option maxHeartbeats 8000000 in
set_option maxRecDepth 100000 in
theorem epactref04_digits.calls (k : Nat) (a0 : Int) (a1 : Int) (r : ByteArray) (w : World) (h : epactref04_digits.f k a0 a1 = some r) :
    Calls Try.prog 21 #[.int .i64 a0, .int .i64 a1] w fun e w' => e = .returned (.string r) ∧ Below w.heap.size w w' := by
  have HB := Aside0.mk (Below.refl w.heap.size w)
  have H : (epactref04_digits.l0 k a0 a1 (⟨#[]⟩ : ByteArray) 0) = some r := h
  clear h
  have H' := Aside0.mk H
  clear H
  go_enter Try.func21, Try.ntmps21
  go_wp2
  go_loopg [0, 5, 6] k (fun kq v0 v5 v6 w' => ∃ (x0_1 : Int) (x5_1 : ByteArray) (x6_1 : Int), v0 = .int .i64 x0_1 ∧ v5 = .string x5_1 ∧ v6 = .int .i64 x6_1 ∧ Aside0 (epactref04_digits.l0 kq x0_1 a1 x5_1 x6_1 = some r) ∧ Aside0 (kq ≤ k) ∧ Aside0 (Below w.heap.size w w'))
  case atStart => exact ⟨(a0), ((⟨#[]⟩ : ByteArray)), (0), (by first | rfl | (simp; done) | (simp [*]; done)), (by first | rfl | (simp; done) | (simp [*]; done)), (by first | rfl | (simp; done) | (simp [*]; done)), H', ⟨Nat.le_refl _⟩, ⟨by repeat (first | (with_reducible first | exact HB.out | apply below_alloc | apply pw_below_drewN | apply below_drew1) | exact HB.out)⟩⟩
  case round =>
    clear H'
    try clear c2
    try clear p2
    obtain ⟨x0_1, x5_1, x6_1, rfl, rfl, rfl, HA, HK1, HB⟩ := hrel
    cases gk with
    | zero => exact absurd HA.out (by simp [epactref04_digits.l0])
    | succ k1 =>
      have H := HA.out
      clear HA
      simp only [epactref04_digits.l0] at H
      by_cases c3 : x6_1 < a1
      · rw [if_pos c3] at H
        have c3b0 : decide (x6_1 < a1) = true := decide_eq_true c3
        clear c3
        obtain ⟨y155, hy155⟩ : ∃ y_ : List Int, y_ = (([(wrap64 (48 + (Int.tmod x0_1 10))) % 256] : List Int)) := ⟨_, rfl⟩
        replace H : (if (strOfNums y155).size + x5_1.size ≤ 9223372036854775807 then (epactref04_digits.l0 k1 (wrap64 (Int.tdiv x0_1 10)) a1 ((strOfNums y155) ++ x5_1) (wrap64 (x6_1 + 1))) else (none)) = some r := by first | (rw [hy155]; with_reducible exact H) | (have H2_ := (Option.bind_some _ _).symm.trans H; rw [hy155]; with_reducible exact H2_) | (have H2_ := (Option.bind_some _ _).symm.trans H; with_reducible exact H2_) | with_reducible exact H | (rw [hy155]; exact H) | exact H
        have Ny155 := Aside0.mk hy155
        clear hy155
        by_cases c4 : (strOfNums y155).size + x5_1.size ≤ 9223372036854775807
        · rw [if_pos c4] at H
          have c4b0 := eq_true c4
          have c4b1 : decide ((strOfNums y155).size + x5_1.size ≤ 9223372036854775807) = true := decide_eq_true c4
          try have c4b2 : (9223372036854775807 < (strOfNums y155).size + x5_1.size) = False := eq_false (Nat.not_lt.2 c4)
          have H' := Aside0.mk H
          clear H
          go_wp2_with (first | ((with_reducible refine gate_dst (N := 16) rfl ?_); refine Kd.R_lit (Kd.int .u8) _ 5 ?hg (N := 16) ?hd (xs := ([(wrap64 (48 + (Int.tmod x0_1 10))) % 256] : List Int)) (inner := [.int .u8 ((wrap64 (48 + (Int.tmod x0_1 10))) % 256)]) (ok := fun _ => True) (okp := fun _ => True) ?hr ?hp (fun _ hk => hk) trivial (Below.refl _ _) (Nat.le_refl _) (by simp) ?_; (case hd => rfl); (case hg => rfl); (case hr => first | (go_simp; done) | (go_simp; rfl)); (case hp => exact (Reps.one (show Kd.M (Kd.int .u8) _ _ _ ((wrap64 (48 + (Int.tmod x0_1 10))) % 256) [.int .u8 ((wrap64 (48 + (Int.tmod x0_1 10))) % 256)] from rfl) (Reps.none _ _))); intro v156 w5 ho6 hb hg_ hnew_; clear hg_ hnew_; (first | rw [← Ny155.out] at ho6 | (simp only [Int.reduceToNat] at ho6; rw [← Ny155.out] at ho6)); have n0_ := Aside0.mk (Kd.R_lower ho6 (below_size (by repeat (first | (with_reducible first | exact HB.out | apply below_alloc | apply pw_below_drewN | apply below_drew1) | exact HB.out)))); have n1_ := Aside0.mk (below_step (by repeat (first | (with_reducible first | exact HB.out | apply below_alloc | apply pw_below_drewN | apply below_drew1) | exact HB.out)) hb); clear HB; have HO157 := n0_; have HB := n1_; clear n0_ n1_; clear hb ho6; have hcv7 := own_string (P := Try.prog) Try.underlying35 Try.underlying5 Try.underlying9 (Kd.own_of_R HO157.out)))
          go_roundg k1
          case measure => have := HK1.out; omega
          case rel => exact ⟨(wrap64 (Int.tdiv x0_1 10)), ((strOfNums y155) ++ x5_1), (wrap64 (x6_1 + 1)), (by first | rfl | (simp; done) | (simp [*]; done)), (by first | rfl | (simp; done) | (simp [*]; done)), (by first | rfl | (simp; done) | (simp [*]; done)), H', ⟨by have := HK1.out; omega⟩, ⟨by repeat (first | (with_reducible first | exact HB.out | apply below_alloc | apply pw_below_drewN | apply below_drew1) | exact HB.out)⟩⟩
        · rw [if_neg c4] at H
          exact absurd H (by simp)
      · rw [if_neg c3] at H
        have c3b0 : decide (x6_1 < a1) = false := decide_eq_false c3
        clear c3
        obtain rfl := Option.some.inj H
        go_wp2
        go_ret
        exact ⟨by first | rfl | (simp [errW_none, errW_some] <;> rfl) | (simp [*, errW_none, errW_some] <;> rfl), by repeat (first | (with_reducible first | exact HB.out | apply below_alloc | apply pw_below_drewN | apply below_drew1) | exact HB.out)⟩

/-! ### epactref03_first: function 30 -/
def epactref03_first.f (a0 : Int) : Option (Int) := some (wrap64 ((wrap64 ((wrap64 ((wrap64 ((wrap64 (365 * (wrap64 (a0 - 1)))) + (wrap64 (Int.tdiv (wrap64 (a0 - 1)) 4)))) - (wrap64 (Int.tdiv (wrap64 (a0 - 1)) 100)))) + (wrap64 (Int.tdiv (wrap64 (a0 - 1)) 400)))) + (-719162)))
set_option maxHeartbeats 8000000 in
set_option maxRecDepth 100000 in
theorem epactref03_first.calls (a0 : Int) (r : Int) (w : World) (h : epactref03_first.f a0 = some r) :
    Calls Try.prog 30 #[.int .i64 a0] w fun e w' => e = .returned (.int .i64 r) ∧ Drawn0 w w' := by
  have H : (some (wrap64 ((wrap64 ((wrap64 ((wrap64 ((wrap64 (365 * (wrap64 (a0 - 1)))) + (wrap64 (Int.tdiv (wrap64 (a0 - 1)) 4)))) - (wrap64 (Int.tdiv (wrap64 (a0 - 1)) 100)))) + (wrap64 (Int.tdiv (wrap64 (a0 - 1)) 400)))) + (-719162)))) = some r := h
  clear h
  obtain rfl := Option.some.inj H
  go_enter Try.func30, Try.ntmps30
  go_wp2
  go_ret
  exact ⟨by first | rfl | (simp; done) | (simp [*]; done), by repeat (first | exact Drawn0.refl _ | apply Drawn0.step)⟩

/-! ### epactref03_Leap: function 33 -/
def epactref03_Leap.f (a0 : Int) : Option (Bool) := if (Int.tmod a0 4) = 0 then (if (Int.tmod a0 100) = 0 then (some ((Int.tmod a0 400) == 0)) else (some true)) else (some ((Int.tmod a0 400) == 0))
set_option maxHeartbeats 8000000 in
set_option maxRecDepth 100000 in
theorem epactref03_Leap.calls (a0 : Int) (r : Bool) (w : World) (h : epactref03_Leap.f a0 = some r) :
    Calls Try.prog 33 #[.int .i64 a0] w fun e w' => e = .returned (.bool r) ∧ Drawn0 w w' := by
  have H : (if (Int.tmod a0 4) = 0 then (if (Int.tmod a0 100) = 0 then (some ((Int.tmod a0 400) == 0)) else (some true)) else (some ((Int.tmod a0 400) == 0))) = some r := h
  clear h
  by_cases c2 : (Int.tmod a0 4) = 0
  · rw [if_pos c2] at H
    have c2b0 : ((Int.tmod a0 4) == 0) = true := beq_iff_eq.mpr c2
    have c2b1 : ((Int.tmod a0 4) != 0) = false := bne_eq_false_iff_eq.mpr c2
    clear c2
    by_cases c3 : (Int.tmod a0 100) = 0
    · rw [if_pos c3] at H
      have c3b0 : ((Int.tmod a0 100) == 0) = true := beq_iff_eq.mpr c3
      have c3b1 : ((Int.tmod a0 100) != 0) = false := bne_eq_false_iff_eq.mpr c3
      clear c3
      obtain rfl := Option.some.inj H
      go_enter Try.func33, Try.ntmps33
      go_wp2
      go_ret
      exact ⟨by first | rfl | (simp; done) | (simp [*]; done), by repeat (first | exact Drawn0.refl _ | apply Drawn0.step)⟩
    · rw [if_neg c3] at H
      have c3b0 : ((Int.tmod a0 100) == 0) = false := beq_eq_false_iff_ne.mpr c3
      have c3b1 : ((Int.tmod a0 100) != 0) = true := bne_iff_ne.mpr c3
      obtain rfl := Option.some.inj H
      go_enter Try.func33, Try.ntmps33
      go_wp2
      go_ret
      exact ⟨by first | rfl | (simp; done) | (simp [*]; done), by repeat (first | exact Drawn0.refl _ | apply Drawn0.step)⟩
  · rw [if_neg c2] at H
    have c2b0 : ((Int.tmod a0 4) == 0) = false := beq_eq_false_iff_ne.mpr c2
    have c2b1 : ((Int.tmod a0 4) != 0) = true := bne_iff_ne.mpr c2
    obtain rfl := Option.some.inj H
    go_enter Try.func33, Try.ntmps33
    go_wp2
    go_ret
    exact ⟨by first | rfl | (simp; done) | (simp [*]; done), by repeat (first | exact Drawn0.refl _ | apply Drawn0.step)⟩

/-! ### epactref03_days: function 31 -/
def epactref03_days.f (a0 : Int) (a1 : Int) : Option (Int) := (some (([31, 28, 31, 30, 31, 30, 31, 31, 30, 31, 30, 31] : List Int) : List Int)).bind fun y158 => (if a1 = 2 then ((epactref03_Leap.f a0).bind fun t161 => (if t161 = true then (some 29) else (if 0 ≤ (wrap64 (a1 - 1)) then (if (wrap64 (a1 - 1)) < (y158.length : Int) then (some (rd y158 (wrap64 (a1 - 1)))) else (none)) else (none)))) else (if 0 ≤ (wrap64 (a1 - 1)) then (if (wrap64 (a1 - 1)) < (y158.length : Int) then (some (rd y158 (wrap64 (a1 - 1)))) else (none)) else (none)))
set_option maxHeartbeats 8000000 in
set_option maxRecDepth 100000 in
theorem epactref03_days.calls (a0 : Int) (a1 : Int) (r : Int) (w : World) (h : epactref03_days.f a0 a1 = some r) :
    Calls Try.prog 31 #[.int .i64 a0, .int .i64 a1] w fun e w' => e = .returned (.int .i64 r) ∧ Below w.heap.size w w' := by
  have HB := Aside0.mk (Below.refl w.heap.size w)
  have H : ((some (([31, 28, 31, 30, 31, 30, 31, 31, 30, 31, 30, 31] : List Int) : List Int)).bind fun y158 => (if a1 = 2 then ((epactref03_Leap.f a0).bind fun t161 => (if t161 = true then (some 29) else (if 0 ≤ (wrap64 (a1 - 1)) then (if (wrap64 (a1 - 1)) < (y158.length : Int) then (some (rd y158 (wrap64 (a1 - 1)))) else (none)) else (none)))) else (if 0 ≤ (wrap64 (a1 - 1)) then (if (wrap64 (a1 - 1)) < (y158.length : Int) then (some (rd y158 (wrap64 (a1 - 1)))) else (none)) else (none)))) = some r := h
  clear h
  obtain ⟨y158, hy158⟩ : ∃ y_ : List Int, y_ = (([31, 28, 31, 30, 31, 30, 31, 31, 30, 31, 30, 31] : List Int)) := ⟨_, rfl⟩
  replace H : (if a1 = 2 then ((epactref03_Leap.f a0).bind fun t161 => (if t161 = true then (some 29) else (if 0 ≤ (wrap64 (a1 - 1)) then (if (wrap64 (a1 - 1)) < (y158.length : Int) then (some (rd y158 (wrap64 (a1 - 1)))) else (none)) else (none)))) else (if 0 ≤ (wrap64 (a1 - 1)) then (if (wrap64 (a1 - 1)) < (y158.length : Int) then (some (rd y158 (wrap64 (a1 - 1)))) else (none)) else (none))) = some r := by first | (rw [hy158]; with_reducible exact H) | (have H2_ := (Option.bind_some _ _).symm.trans H; rw [hy158]; with_reducible exact H2_) | (have H2_ := (Option.bind_some _ _).symm.trans H; with_reducible exact H2_) | with_reducible exact H | (rw [hy158]; exact H) | exact H
  have Ny158 := Aside0.mk hy158
  clear hy158
  by_cases c3 : a1 = 2
  · rw [if_pos c3] at H
    have c3b0 : (a1 == 2) = true := beq_iff_eq.mpr c3
    have c3b1 : (a1 != 2) = false := bne_eq_false_iff_eq.mpr c3
    clear c3
    replace H := Option.bind_eq_some_iff.mp H
    obtain ⟨t161, A40, H⟩ := H
    replace H : (if t161 = true then (some 29) else (if 0 ≤ (wrap64 (a1 - 1)) then (if (wrap64 (a1 - 1)) < (y158.length : Int) then (some (rd y158 (wrap64 (a1 - 1)))) else (none)) else (none))) = some r := H
    have A4 := Aside0.mk A40
    clear A40
    by_cases c5 : t161 = true
    · subst c5
      have H1 : (some 29) = some r := by rw [if_pos rfl] at H; exact H
      clear H
      have H := H1
      clear H1
      obtain rfl := Option.some.inj H
      go_enter Try.func31, Try.ntmps31
      go_wp2_with (first | ((with_reducible refine gate_dst (N := 6) rfl ?_); refine Kd.R_lit (Kd.int .i64) _ 3 ?hg (N := 6) ?hd (xs := ([31, 28, 31, 30, 31, 30, 31, 31, 30, 31, 30, 31] : List Int)) (inner := [.int .i64 31, .int .i64 28, .int .i64 31, .int .i64 30, .int .i64 31, .int .i64 30, .int .i64 31, .int .i64 31, .int .i64 30, .int .i64 31, .int .i64 30, .int .i64 31]) (ok := fun _ => True) (okp := fun _ => True) ?hr ?hp (fun _ hk => hk) trivial (Below.refl _ _) (Nat.le_refl _) (by simp) ?_; (case hd => rfl); (case hg => rfl); (case hr => first | (go_simp; done) | (go_simp; rfl)); (case hp => exact (Reps.one (show Kd.M (Kd.int .i64) _ _ _ 31 [.int .i64 31] from rfl) (Reps.one (show Kd.M (Kd.int .i64) _ _ _ 28 [.int .i64 28] from rfl) (Reps.one (show Kd.M (Kd.int .i64) _ _ _ 31 [.int .i64 31] from rfl) (Reps.one (show Kd.M (Kd.int .i64) _ _ _ 30 [.int .i64 30] from rfl) (Reps.one (show Kd.M (Kd.int .i64) _ _ _ 31 [.int .i64 31] from rfl) (Reps.one (show Kd.M (Kd.int .i64) _ _ _ 30 [.int .i64 30] from rfl) (Reps.one (show Kd.M (Kd.int .i64) _ _ _ 31 [.int .i64 31] from rfl) (Reps.one (show Kd.M (Kd.int .i64) _ _ _ 31 [.int .i64 31] from rfl) (Reps.one (show Kd.M (Kd.int .i64) _ _ _ 30 [.int .i64 30] from rfl) (Reps.one (show Kd.M (Kd.int .i64) _ _ _ 31 [.int .i64 31] from rfl) (Reps.one (show Kd.M (Kd.int .i64) _ _ _ 30 [.int .i64 30] from rfl) (Reps.one (show Kd.M (Kd.int .i64) _ _ _ 31 [.int .i64 31] from rfl) (Reps.none _ _)))))))))))))); intro v159 w6 ho7 hb hg_ hnew_; clear hg_ hnew_; (first | rw [← Ny158.out] at ho7 | (simp only [Int.reduceToNat] at ho7; rw [← Ny158.out] at ho7)); have n0_ := Aside0.mk (Kd.R_lower ho7 (below_size (by repeat (first | (with_reducible first | exact HB.out | apply below_alloc | apply pw_below_drewN | apply below_drew1) | exact HB.out)))); have n1_ := Aside0.mk (below_step (by repeat (first | (with_reducible first | exact HB.out | apply below_alloc | apply pw_below_drewN | apply below_drew1) | exact HB.out)) hb); clear HB; have HO160 := n0_; have HB := n1_; clear n0_ n1_; clear hb ho7) | (go_at_call 33; (with_reducible refine (epactref03_Leap.calls a0 true _ A4.out).mono ?_); rintro e w' ⟨rfl, ⟨nd, rfl⟩⟩))
      go_ret
      exact ⟨by first | rfl | (simp [errW_none, errW_some] <;> rfl) | (simp [*, errW_none, errW_some] <;> rfl), by repeat (first | (with_reducible first | exact HB.out | apply below_alloc | apply pw_below_drewN | apply below_drew1) | exact HB.out)⟩
    · replace c5 := Bool.eq_false_iff.mpr c5
      subst c5
      have H1 : (if 0 ≤ (wrap64 (a1 - 1)) then (if (wrap64 (a1 - 1)) < (y158.length : Int) then (some (rd y158 (wrap64 (a1 - 1)))) else (none)) else (none)) = some r := by rw [if_neg (show ¬ (false = true) by decide)] at H; exact H
      clear H
      have H := H1
      clear H1
      obtain ⟨ji8, hji8⟩ : ∃ j_ : Int, (wrap64 (a1 - 1)) = j_ := ⟨_, rfl⟩
      replace H : (if 0 ≤ (ji8) then (if (ji8) < (y158.length : Int) then (some (rd y158 (ji8))) else (none)) else (none)) = some r := by first | (rw [hji8] at H; exact H) | (simp only [hji8] at H ⊢; exact H)
      (try rw [hji8] at A4)
      have hji8w : (IntKind.i64.wrap (a1 - 1)) = ji8 := (i64_w _).trans hji8
      by_cases c9 : 0 ≤ (ji8)
      · rw [if_pos c9] at H
        have c9b0 : decide (0 ≤ (ji8)) = true := decide_eq_true c9
        clear c9
        by_cases c10 : (ji8) < (y158.length : Int)
        · rw [if_pos c10] at H
          have c10b0 : decide ((ji8) < (y158.length : Int)) = true := decide_eq_true c10
          clear c10
          obtain rfl := Option.some.inj H
          go_enter Try.func31, Try.ntmps31
          go_wp2_with (first | ((with_reducible refine gate_dst (N := 6) rfl ?_); refine Kd.R_lit (Kd.int .i64) _ 3 ?hg (N := 6) ?hd (xs := ([31, 28, 31, 30, 31, 30, 31, 31, 30, 31, 30, 31] : List Int)) (inner := [.int .i64 31, .int .i64 28, .int .i64 31, .int .i64 30, .int .i64 31, .int .i64 30, .int .i64 31, .int .i64 31, .int .i64 30, .int .i64 31, .int .i64 30, .int .i64 31]) (ok := fun _ => True) (okp := fun _ => True) ?hr ?hp (fun _ hk => hk) trivial (Below.refl _ _) (Nat.le_refl _) (by simp) ?_; (case hd => rfl); (case hg => rfl); (case hr => first | (go_simp; done) | (go_simp; rfl)); (case hp => exact (Reps.one (show Kd.M (Kd.int .i64) _ _ _ 31 [.int .i64 31] from rfl) (Reps.one (show Kd.M (Kd.int .i64) _ _ _ 28 [.int .i64 28] from rfl) (Reps.one (show Kd.M (Kd.int .i64) _ _ _ 31 [.int .i64 31] from rfl) (Reps.one (show Kd.M (Kd.int .i64) _ _ _ 30 [.int .i64 30] from rfl) (Reps.one (show Kd.M (Kd.int .i64) _ _ _ 31 [.int .i64 31] from rfl) (Reps.one (show Kd.M (Kd.int .i64) _ _ _ 30 [.int .i64 30] from rfl) (Reps.one (show Kd.M (Kd.int .i64) _ _ _ 31 [.int .i64 31] from rfl) (Reps.one (show Kd.M (Kd.int .i64) _ _ _ 31 [.int .i64 31] from rfl) (Reps.one (show Kd.M (Kd.int .i64) _ _ _ 30 [.int .i64 30] from rfl) (Reps.one (show Kd.M (Kd.int .i64) _ _ _ 31 [.int .i64 31] from rfl) (Reps.one (show Kd.M (Kd.int .i64) _ _ _ 30 [.int .i64 30] from rfl) (Reps.one (show Kd.M (Kd.int .i64) _ _ _ 31 [.int .i64 31] from rfl) (Reps.none _ _)))))))))))))); intro v159 w11 ho12 hb hg_ hnew_; clear hg_ hnew_; (first | rw [← Ny158.out] at ho12 | (simp only [Int.reduceToNat] at ho12; rw [← Ny158.out] at ho12)); have n0_ := Aside0.mk (Kd.R_lower ho12 (below_size (by repeat (first | (with_reducible first | exact HB.out | apply below_alloc | apply pw_below_drewN | apply below_drew1) | exact HB.out)))); have n1_ := Aside0.mk (below_step (by repeat (first | (with_reducible first | exact HB.out | apply below_alloc | apply pw_below_drewN | apply below_drew1) | exact HB.out)) hb); clear HB; have HO160 := n0_; have HB := n1_; clear n0_ n1_; clear hb ho12) | (go_at_call 33; (with_reducible refine (epactref03_Leap.calls a0 false _ A4.out).mono ?_); rintro e w' ⟨rfl, ⟨nd, rfl⟩⟩; obtain ⟨Ao13, co13, eo13⟩ := Kd.R_slice HO160.out; subst eo13; have p162 : 0 ≤ ((ji8) : Int) := of_decide_eq_true (by first | (with_reducible assumption) | assumption); have q162 : (ji8) < (y158.length : Int) := of_decide_eq_true (by first | (with_reducible assumption) | assumption); obtain ⟨ad162, e162, hx162_0⟩ := Kd.at_int (Kd.R_reads' HO160.out).2.2 (ji8) p162 q162; cases e162; replace p162 := eq_true p162; replace q162 := eq_true q162))
          go_ret
          exact ⟨by first | rfl | (simp [errW_none, errW_some] <;> rfl) | (simp only [← hji8]; first | rfl | (simp [errW_none, errW_some] <;> rfl)) | (simp [*, errW_none, errW_some] <;> rfl), by repeat (first | (with_reducible first | exact HB.out | apply below_alloc | apply pw_below_drewN | apply below_drew1) | exact HB.out)⟩
        · rw [if_neg c10] at H
          exact absurd H (by simp)
      · rw [if_neg c9] at H
        exact absurd H (by simp)
  · rw [if_neg c3] at H
    have c3b0 : (a1 == 2) = false := beq_eq_false_iff_ne.mpr c3
    have c3b1 : (a1 != 2) = true := bne_iff_ne.mpr c3
    obtain ⟨ji14, hji14⟩ : ∃ j_ : Int, (wrap64 (a1 - 1)) = j_ := ⟨_, rfl⟩
    replace H : (if 0 ≤ (ji14) then (if (ji14) < (y158.length : Int) then (some (rd y158 (ji14))) else (none)) else (none)) = some r := by first | (rw [hji14] at H; exact H) | (simp only [hji14] at H ⊢; exact H)
    have hji14w : (IntKind.i64.wrap (a1 - 1)) = ji14 := (i64_w _).trans hji14
    by_cases c15 : 0 ≤ (ji14)
    · rw [if_pos c15] at H
      have c15b0 : decide (0 ≤ (ji14)) = true := decide_eq_true c15
      clear c15
      by_cases c16 : (ji14) < (y158.length : Int)
      · rw [if_pos c16] at H
        have c16b0 : decide ((ji14) < (y158.length : Int)) = true := decide_eq_true c16
        clear c16
        obtain rfl := Option.some.inj H
        go_enter Try.func31, Try.ntmps31
        go_wp2_with (first | ((with_reducible refine gate_dst (N := 6) rfl ?_); refine Kd.R_lit (Kd.int .i64) _ 3 ?hg (N := 6) ?hd (xs := ([31, 28, 31, 30, 31, 30, 31, 31, 30, 31, 30, 31] : List Int)) (inner := [.int .i64 31, .int .i64 28, .int .i64 31, .int .i64 30, .int .i64 31, .int .i64 30, .int .i64 31, .int .i64 31, .int .i64 30, .int .i64 31, .int .i64 30, .int .i64 31]) (ok := fun _ => True) (okp := fun _ => True) ?hr ?hp (fun _ hk => hk) trivial (Below.refl _ _) (Nat.le_refl _) (by simp) ?_; (case hd => rfl); (case hg => rfl); (case hr => first | (go_simp; done) | (go_simp; rfl)); (case hp => exact (Reps.one (show Kd.M (Kd.int .i64) _ _ _ 31 [.int .i64 31] from rfl) (Reps.one (show Kd.M (Kd.int .i64) _ _ _ 28 [.int .i64 28] from rfl) (Reps.one (show Kd.M (Kd.int .i64) _ _ _ 31 [.int .i64 31] from rfl) (Reps.one (show Kd.M (Kd.int .i64) _ _ _ 30 [.int .i64 30] from rfl) (Reps.one (show Kd.M (Kd.int .i64) _ _ _ 31 [.int .i64 31] from rfl) (Reps.one (show Kd.M (Kd.int .i64) _ _ _ 30 [.int .i64 30] from rfl) (Reps.one (show Kd.M (Kd.int .i64) _ _ _ 31 [.int .i64 31] from rfl) (Reps.one (show Kd.M (Kd.int .i64) _ _ _ 31 [.int .i64 31] from rfl) (Reps.one (show Kd.M (Kd.int .i64) _ _ _ 30 [.int .i64 30] from rfl) (Reps.one (show Kd.M (Kd.int .i64) _ _ _ 31 [.int .i64 31] from rfl) (Reps.one (show Kd.M (Kd.int .i64) _ _ _ 30 [.int .i64 30] from rfl) (Reps.one (show Kd.M (Kd.int .i64) _ _ _ 31 [.int .i64 31] from rfl) (Reps.none _ _)))))))))))))); intro v159 w17 ho18 hb hg_ hnew_; clear hg_ hnew_; (first | rw [← Ny158.out] at ho18 | (simp only [Int.reduceToNat] at ho18; rw [← Ny158.out] at ho18)); have n0_ := Aside0.mk (Kd.R_lower ho18 (below_size (by repeat (first | (with_reducible first | exact HB.out | apply below_alloc | apply pw_below_drewN | apply below_drew1) | exact HB.out)))); have n1_ := Aside0.mk (below_step (by repeat (first | (with_reducible first | exact HB.out | apply below_alloc | apply pw_below_drewN | apply below_drew1) | exact HB.out)) hb); clear HB; have HO160 := n0_; have HB := n1_; clear n0_ n1_; clear hb ho18; obtain ⟨Ao19, co19, eo19⟩ := Kd.R_slice HO160.out; subst eo19; have p163 : 0 ≤ ((ji14) : Int) := of_decide_eq_true (by first | (with_reducible assumption) | assumption); have q163 : (ji14) < (y158.length : Int) := of_decide_eq_true (by first | (with_reducible assumption) | assumption); obtain ⟨ad163, e163, hx163_0⟩ := Kd.at_int (Kd.R_reads' HO160.out).2.2 (ji14) p163 q163; cases e163; replace p163 := eq_true p163; replace q163 := eq_true q163))
        go_ret
        exact ⟨by first | rfl | (simp [errW_none, errW_some] <;> rfl) | (simp only [← hji14]; first | rfl | (simp [errW_none, errW_some] <;> rfl)) | (simp [*, errW_none, errW_some] <;> rfl), by repeat (first | (with_reducible first | exact HB.out | apply below_alloc | apply pw_below_drewN | apply below_drew1) | exact HB.out)⟩
      · rw [if_neg c16] at H
        exact absurd H (by simp)
    · rw [if_neg c15] at H
      exact absurd H (by simp)

end Go.Proofs.Ytpgkdagjlbcgkaa.PAll
