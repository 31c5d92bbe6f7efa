-- Written for this claim by wip/tools of this repo (after the kit's print; own contracts laid in).
import Derived.Test.YtlfnkamhokfeaaaPAllx0
import Derived.Test.YtlfnkamhokfeaaaPAllx1
import Derived.Test.YtlfnkamhokfeaaaPAllx4
import Derived.Test.YtlfnkamhokfeaaaPAllx5
namespace Go.Proofs.Ytlfnkamhokfeaaa.PAll
open Go.RowKit Go.Proofs.YtlfnkamhokfeaaaW.PrintWords Go.Proofs.YtlfnkamhokfeaaaW.PrintLast Go.Proofs.YtlfnkamhokfeaaaW.PrintMore
attribute [local go_sem] max2_int min2_int max_two min_two max_three min_three max_four min_four   -- for this text's walks alone
set_option linter.unusedVariables false
set_option linter.unusedSimpArgs false

/-! ### epactlaw23_small: function 8 -/
def epactlaw23_small.f (k : Nat)  : Option (Bool) := (some (([(⟨78796800, 1⟩ : S40), (⟨126230400, 0⟩ : S40)] : List (S40)) : List (S40))).bind fun y216 => ((posix_From.f k y216 15724799).bind fun bt219 => ((posix_From.f k y216 15724800).bind fun bt221 => ((posix_From.f k y216 15724801).bind fun bt223 => ((posix_Tai.f k y216 78796799).bind fun bt225 => ((posix_Tai.f k y216 126230399).bind fun bt227 => ((posix_Utc.f k y216 78796800).bind fun bt229 => ((posix_Of.f 911 86400).bind fun bt232 => ((posix_Of.f 0 86401).bind fun bt234 => ((posix_Day.f (-1)).bind fun bt236 => ((posix_Twice.f k y216 78796799).bind fun bt238 => ((posix_Twice.f k y216 78796800).bind fun bt240 => ((posix_Tai.f k y216 5).bind fun bt242 => (if bt219.1 = 78796799 then (if bt219.2 = 0 then (if bt221.1 = 78796799 then (if bt221.2 = 0 then (if bt223.1 = 78796800 then (if bt223.2 = 0 then (if bt225.1 = 15724799 then (if bt225.2 = 0 then (if bt227.2 = 11 then (if bt229.1 = 912 then (if bt229.2.1 = 0 then (if bt229.2.2 = 0 then (if bt232.1 = 78796799 then (if bt232.2 = true then (if bt234.2 = true then (none) else (if bt236.1 = (-1) then (if bt236.2 = 86399 then (if bt238.1 = true then (if bt238.2 = 0 then (if bt240.1 = true then (none) else (if bt240.2 = 0 then (some (bt242.2 == 9)) else (none))) else (none)) else (none)) else (none)) else (none))) else (none)) else (none)) else (none)) else (none)) else (none)) else (none)) else (none)) else (none)) else (none)) else (none)) else (none)) else (none)) else (none)) else (none))))))))))))))
theorem epactlaw23_small.mono : ∀ k, LeO (epactlaw23_small.f k ) (epactlaw23_small.f (k + 1) ) := by
  intro  k
  unfold epactlaw23_small.f
  repeat' first
      | (with_reducible exact posix_From.mono _ _ _)
      | (with_reducible exact posix_Tai.mono _ _ _)
      | (with_reducible exact posix_Twice.mono _ _ _)
      | (with_reducible exact posix_Utc.mono _ _ _)
      | (with_reducible exact LeO.refl _)
      | (with_reducible exact LeO.none _)
      | (with_reducible refine LeO.ite ?_ ?_)
      | (with_reducible refine LeO.bind ?_ (fun _ => ?_))
      | exact posix_From.mono _ _ _
      | exact posix_Tai.mono _ _ _
      | exact posix_Twice.mono _ _ _
      | exact posix_Utc.mono _ _ _
      | exact LeO.none _
      | refine LeO.ite ?_ ?_
      | refine LeO.bind ?_ (fun _ => ?_)
set_option maxHeartbeats 8000000 in
set_option maxRecDepth 100000 in
theorem epactlaw23_small.calls (k : Nat)  (r : Bool) (w : World) (h : epactlaw23_small.f k  = some r) :
    Calls Try.prog 8 #[] w fun e w' => e = .returned (.bool r) ∧ Below w.heap.size w w' := by
  have hu40 := Try.underlying40
  have HB := Aside0.mk (Below.refl w.heap.size w)
  have H : ((some (([(⟨78796800, 1⟩ : S40), (⟨126230400, 0⟩ : S40)] : List (S40)) : List (S40))).bind fun y216 => ((posix_From.f k y216 15724799).bind fun bt219 => ((posix_From.f k y216 15724800).bind fun bt221 => ((posix_From.f k y216 15724801).bind fun bt223 => ((posix_Tai.f k y216 78796799).bind fun bt225 => ((posix_Tai.f k y216 126230399).bind fun bt227 => ((posix_Utc.f k y216 78796800).bind fun bt229 => ((posix_Of.f 911 86400).bind fun bt232 => ((posix_Of.f 0 86401).bind fun bt234 => ((posix_Day.f (-1)).bind fun bt236 => ((posix_Twice.f k y216 78796799).bind fun bt238 => ((posix_Twice.f k y216 78796800).bind fun bt240 => ((posix_Tai.f k y216 5).bind fun bt242 => (if bt219.1 = 78796799 then (if bt219.2 = 0 then (if bt221.1 = 78796799 then (if bt221.2 = 0 then (if bt223.1 = 78796800 then (if bt223.2 = 0 then (if bt225.1 = 15724799 then (if bt225.2 = 0 then (if bt227.2 = 11 then (if bt229.1 = 912 then (if bt229.2.1 = 0 then (if bt229.2.2 = 0 then (if bt232.1 = 78796799 then (if bt232.2 = true then (if bt234.2 = true then (none) else (if bt236.1 = (-1) then (if bt236.2 = 86399 then (if bt238.1 = true then (if bt238.2 = 0 then (if bt240.1 = true then (none) else (if bt240.2 = 0 then (some (bt242.2 == 9)) else (none))) else (none)) else (none)) else (none)) else (none))) else (none)) else (none)) else (none)) else (none)) else (none)) else (none)) else (none)) else (none)) else (none)) else (none)) else (none)) else (none)) else (none)) else (none))))))))))))))) = some r := h
  clear h
  obtain ⟨y216, hy216⟩ : ∃ y_ : List (S40), y_ = (([(⟨78796800, 1⟩ : S40), (⟨126230400, 0⟩ : S40)] : List (S40))) := ⟨_, rfl⟩
  replace H : ((posix_From.f k y216 15724799).bind fun bt219 => ((posix_From.f k y216 15724800).bind fun bt221 => ((posix_From.f k y216 15724801).bind fun bt223 => ((posix_Tai.f k y216 78796799).bind fun bt225 => ((posix_Tai.f k y216 126230399).bind fun bt227 => ((posix_Utc.f k y216 78796800).bind fun bt229 => ((posix_Of.f 911 86400).bind fun bt232 => ((posix_Of.f 0 86401).bind fun bt234 => ((posix_Day.f (-1)).bind fun bt236 => ((posix_Twice.f k y216 78796799).bind fun bt238 => ((posix_Twice.f k y216 78796800).bind fun bt240 => ((posix_Tai.f k y216 5).bind fun bt242 => (if bt219.1 = 78796799 then (if bt219.2 = 0 then (if bt221.1 = 78796799 then (if bt221.2 = 0 then (if bt223.1 = 78796800 then (if bt223.2 = 0 then (if bt225.1 = 15724799 then (if bt225.2 = 0 then (if bt227.2 = 11 then (if bt229.1 = 912 then (if bt229.2.1 = 0 then (if bt229.2.2 = 0 then (if bt232.1 = 78796799 then (if bt232.2 = true then (if bt234.2 = true then (none) else (if bt236.1 = (-1) then (if bt236.2 = 86399 then (if bt238.1 = true then (if bt238.2 = 0 then (if bt240.1 = true then (none) else (if bt240.2 = 0 then (some (bt242.2 == 9)) else (none))) else (none)) else (none)) else (none)) else (none))) else (none)) else (none)) else (none)) else (none)) else (none)) else (none)) else (none)) else (none)) else (none)) else (none)) else (none)) else (none)) else (none)) else (none)))))))))))))) = some r := by first | (rw [hy216]; with_reducible exact H) | (have H2_ := (Option.bind_some _ _).symm.trans H; rw [hy216]; with_reducible exact H2_) | (have H2_ := (Option.bind_some _ _).symm.trans H; with_reducible exact H2_) | with_reducible exact H | (rw [hy216]; exact H) | exact H
  have Ny216 := Aside0.mk hy216
  clear hy216
  replace H := Option.bind_eq_some_iff.mp H
  obtain ⟨⟨t219, t220⟩, A10, H⟩ := H
  replace H : ((posix_From.f k y216 15724800).bind fun bt221 => ((posix_From.f k y216 15724801).bind fun bt223 => ((posix_Tai.f k y216 78796799).bind fun bt225 => ((posix_Tai.f k y216 126230399).bind fun bt227 => ((posix_Utc.f k y216 78796800).bind fun bt229 => ((posix_Of.f 911 86400).bind fun bt232 => ((posix_Of.f 0 86401).bind fun bt234 => ((posix_Day.f (-1)).bind fun bt236 => ((posix_Twice.f k y216 78796799).bind fun bt238 => ((posix_Twice.f k y216 78796800).bind fun bt240 => ((posix_Tai.f k y216 5).bind fun bt242 => (if t219 = 78796799 then (if t220 = 0 then (if bt221.1 = 78796799 then (if bt221.2 = 0 then (if bt223.1 = 78796800 then (if bt223.2 = 0 then (if bt225.1 = 15724799 then (if bt225.2 = 0 then (if bt227.2 = 11 then (if bt229.1 = 912 then (if bt229.2.1 = 0 then (if bt229.2.2 = 0 then (if bt232.1 = 78796799 then (if bt232.2 = true then (if bt234.2 = true then (none) else (if bt236.1 = (-1) then (if bt236.2 = 86399 then (if bt238.1 = true then (if bt238.2 = 0 then (if bt240.1 = true then (none) else (if bt240.2 = 0 then (some (bt242.2 == 9)) else (none))) else (none)) else (none)) else (none)) else (none))) else (none)) else (none)) else (none)) else (none)) else (none)) else (none)) else (none)) else (none)) else (none)) else (none)) else (none)) else (none)) else (none)) else (none))))))))))))) = some r := H
  have A1 := Aside0.mk A10
  clear A10
  replace H := Option.bind_eq_some_iff.mp H
  obtain ⟨⟨t221, t222⟩, A20, H⟩ := H
  replace H : ((posix_From.f k y216 15724801).bind fun bt223 => ((posix_Tai.f k y216 78796799).bind fun bt225 => ((posix_Tai.f k y216 126230399).bind fun bt227 => ((posix_Utc.f k y216 78796800).bind fun bt229 => ((posix_Of.f 911 86400).bind fun bt232 => ((posix_Of.f 0 86401).bind fun bt234 => ((posix_Day.f (-1)).bind fun bt236 => ((posix_Twice.f k y216 78796799).bind fun bt238 => ((posix_Twice.f k y216 78796800).bind fun bt240 => ((posix_Tai.f k y216 5).bind fun bt242 => (if t219 = 78796799 then (if t220 = 0 then (if t221 = 78796799 then (if t222 = 0 then (if bt223.1 = 78796800 then (if bt223.2 = 0 then (if bt225.1 = 15724799 then (if bt225.2 = 0 then (if bt227.2 = 11 then (if bt229.1 = 912 then (if bt229.2.1 = 0 then (if bt229.2.2 = 0 then (if bt232.1 = 78796799 then (if bt232.2 = true then (if bt234.2 = true then (none) else (if bt236.1 = (-1) then (if bt236.2 = 86399 then (if bt238.1 = true then (if bt238.2 = 0 then (if bt240.1 = true then (none) else (if bt240.2 = 0 then (some (bt242.2 == 9)) else (none))) else (none)) else (none)) else (none)) else (none))) else (none)) else (none)) else (none)) else (none)) else (none)) else (none)) else (none)) else (none)) else (none)) else (none)) else (none)) else (none)) else (none)) else (none)))))))))))) = some r := H
  have A2 := Aside0.mk A20
  clear A20
  replace H := Option.bind_eq_some_iff.mp H
  obtain ⟨⟨t223, t224⟩, A30, H⟩ := H
  replace H : ((posix_Tai.f k y216 78796799).bind fun bt225 => ((posix_Tai.f k y216 126230399).bind fun bt227 => ((posix_Utc.f k y216 78796800).bind fun bt229 => ((posix_Of.f 911 86400).bind fun bt232 => ((posix_Of.f 0 86401).bind fun bt234 => ((posix_Day.f (-1)).bind fun bt236 => ((posix_Twice.f k y216 78796799).bind fun bt238 => ((posix_Twice.f k y216 78796800).bind fun bt240 => ((posix_Tai.f k y216 5).bind fun bt242 => (if t219 = 78796799 then (if t220 = 0 then (if t221 = 78796799 then (if t222 = 0 then (if t223 = 78796800 then (if t224 = 0 then (if bt225.1 = 15724799 then (if bt225.2 = 0 then (if bt227.2 = 11 then (if bt229.1 = 912 then (if bt229.2.1 = 0 then (if bt229.2.2 = 0 then (if bt232.1 = 78796799 then (if bt232.2 = true then (if bt234.2 = true then (none) else (if bt236.1 = (-1) then (if bt236.2 = 86399 then (if bt238.1 = true then (if bt238.2 = 0 then (if bt240.1 = true then (none) else (if bt240.2 = 0 then (some (bt242.2 == 9)) else (none))) else (none)) else (none)) else (none)) else (none))) else (none)) else (none)) else (none)) else (none)) else (none)) else (none)) else (none)) else (none)) else (none)) else (none)) else (none)) else (none)) else (none)) else (none))))))))))) = some r := H
  have A3 := Aside0.mk A30
  clear A30
  replace H := Option.bind_eq_some_iff.mp H
  obtain ⟨⟨t225, t226⟩, A40, H⟩ := H
  replace H : ((posix_Tai.f k y216 126230399).bind fun bt227 => ((posix_Utc.f k y216 78796800).bind fun bt229 => ((posix_Of.f 911 86400).bind fun bt232 => ((posix_Of.f 0 86401).bind fun bt234 => ((posix_Day.f (-1)).bind fun bt236 => ((posix_Twice.f k y216 78796799).bind fun bt238 => ((posix_Twice.f k y216 78796800).bind fun bt240 => ((posix_Tai.f k y216 5).bind fun bt242 => (if t219 = 78796799 then (if t220 = 0 then (if t221 = 78796799 then (if t222 = 0 then (if t223 = 78796800 then (if t224 = 0 then (if t225 = 15724799 then (if t226 = 0 then (if bt227.2 = 11 then (if bt229.1 = 912 then (if bt229.2.1 = 0 then (if bt229.2.2 = 0 then (if bt232.1 = 78796799 then (if bt232.2 = true then (if bt234.2 = true then (none) else (if bt236.1 = (-1) then (if bt236.2 = 86399 then (if bt238.1 = true then (if bt238.2 = 0 then (if bt240.1 = true then (none) else (if bt240.2 = 0 then (some (bt242.2 == 9)) else (none))) else (none)) else (none)) else (none)) else (none))) else (none)) else (none)) else (none)) else (none)) else (none)) else (none)) else (none)) else (none)) else (none)) else (none)) else (none)) else (none)) else (none)) else (none)))))))))) = some r := H
  have A4 := Aside0.mk A40
  clear A40
  replace H := Option.bind_eq_some_iff.mp H
  obtain ⟨⟨t227, t228⟩, A50, H⟩ := H
  replace H : ((posix_Utc.f k y216 78796800).bind fun bt229 => ((posix_Of.f 911 86400).bind fun bt232 => ((posix_Of.f 0 86401).bind fun bt234 => ((posix_Day.f (-1)).bind fun bt236 => ((posix_Twice.f k y216 78796799).bind fun bt238 => ((posix_Twice.f k y216 78796800).bind fun bt240 => ((posix_Tai.f k y216 5).bind fun bt242 => (if t219 = 78796799 then (if t220 = 0 then (if t221 = 78796799 then (if t222 = 0 then (if t223 = 78796800 then (if t224 = 0 then (if t225 = 15724799 then (if t226 = 0 then (if t228 = 11 then (if bt229.1 = 912 then (if bt229.2.1 = 0 then (if bt229.2.2 = 0 then (if bt232.1 = 78796799 then (if bt232.2 = true then (if bt234.2 = true then (none) else (if bt236.1 = (-1) then (if bt236.2 = 86399 then (if bt238.1 = true then (if bt238.2 = 0 then (if bt240.1 = true then (none) else (if bt240.2 = 0 then (some (bt242.2 == 9)) else (none))) else (none)) else (none)) else (none)) else (none))) else (none)) else (none)) else (none)) else (none)) else (none)) else (none)) else (none)) else (none)) else (none)) else (none)) else (none)) else (none)) else (none)) else (none))))))))) = some r := H
  have A5 := Aside0.mk A50
  clear A50
  replace H := Option.bind_eq_some_iff.mp H
  obtain ⟨⟨t229, t230, t231⟩, A60, H⟩ := H
  replace H : ((posix_Of.f 911 86400).bind fun bt232 => ((posix_Of.f 0 86401).bind fun bt234 => ((posix_Day.f (-1)).bind fun bt236 => ((posix_Twice.f k y216 78796799).bind fun bt238 => ((posix_Twice.f k y216 78796800).bind fun bt240 => ((posix_Tai.f k y216 5).bind fun bt242 => (if t219 = 78796799 then (if t220 = 0 then (if t221 = 78796799 then (if t222 = 0 then (if t223 = 78796800 then (if t224 = 0 then (if t225 = 15724799 then (if t226 = 0 then (if t228 = 11 then (if t229 = 912 then (if t230 = 0 then (if t231 = 0 then (if bt232.1 = 78796799 then (if bt232.2 = true then (if bt234.2 = true then (none) else (if bt236.1 = (-1) then (if bt236.2 = 86399 then (if bt238.1 = true then (if bt238.2 = 0 then (if bt240.1 = true then (none) else (if bt240.2 = 0 then (some (bt242.2 == 9)) else (none))) else (none)) else (none)) else (none)) else (none))) else (none)) else (none)) else (none)) else (none)) else (none)) else (none)) else (none)) else (none)) else (none)) else (none)) else (none)) else (none)) else (none)) else (none)))))))) = some r := H
  have A6 := Aside0.mk A60
  clear A60
  replace H := Option.bind_eq_some_iff.mp H
  obtain ⟨⟨t232, t233⟩, A70, H⟩ := H
  replace H : ((posix_Of.f 0 86401).bind fun bt234 => ((posix_Day.f (-1)).bind fun bt236 => ((posix_Twice.f k y216 78796799).bind fun bt238 => ((posix_Twice.f k y216 78796800).bind fun bt240 => ((posix_Tai.f k y216 5).bind fun bt242 => (if t219 = 78796799 then (if t220 = 0 then (if t221 = 78796799 then (if t222 = 0 then (if t223 = 78796800 then (if t224 = 0 then (if t225 = 15724799 then (if t226 = 0 then (if t228 = 11 then (if t229 = 912 then (if t230 = 0 then (if t231 = 0 then (if t232 = 78796799 then (if t233 = true then (if bt234.2 = true then (none) else (if bt236.1 = (-1) then (if bt236.2 = 86399 then (if bt238.1 = true then (if bt238.2 = 0 then (if bt240.1 = true then (none) else (if bt240.2 = 0 then (some (bt242.2 == 9)) else (none))) else (none)) else (none)) else (none)) else (none))) else (none)) else (none)) else (none)) else (none)) else (none)) else (none)) else (none)) else (none)) else (none)) else (none)) else (none)) else (none)) else (none)) else (none))))))) = some r := H
  have A7 := Aside0.mk A70
  clear A70
  replace H := Option.bind_eq_some_iff.mp H
  obtain ⟨⟨t234, t235⟩, A80, H⟩ := H
  replace H : ((posix_Day.f (-1)).bind fun bt236 => ((posix_Twice.f k y216 78796799).bind fun bt238 => ((posix_Twice.f k y216 78796800).bind fun bt240 => ((posix_Tai.f k y216 5).bind fun bt242 => (if t219 = 78796799 then (if t220 = 0 then (if t221 = 78796799 then (if t222 = 0 then (if t223 = 78796800 then (if t224 = 0 then (if t225 = 15724799 then (if t226 = 0 then (if t228 = 11 then (if t229 = 912 then (if t230 = 0 then (if t231 = 0 then (if t232 = 78796799 then (if t233 = true then (if t235 = true then (none) else (if bt236.1 = (-1) then (if bt236.2 = 86399 then (if bt238.1 = true then (if bt238.2 = 0 then (if bt240.1 = true then (none) else (if bt240.2 = 0 then (some (bt242.2 == 9)) else (none))) else (none)) else (none)) else (none)) else (none))) else (none)) else (none)) else (none)) else (none)) else (none)) else (none)) else (none)) else (none)) else (none)) else (none)) else (none)) else (none)) else (none)) else (none)))))) = some r := H
  have A8 := Aside0.mk A80
  clear A80
  replace H := Option.bind_eq_some_iff.mp H
  obtain ⟨⟨t236, t237⟩, A90, H⟩ := H
  replace H : ((posix_Twice.f k y216 78796799).bind fun bt238 => ((posix_Twice.f k y216 78796800).bind fun bt240 => ((posix_Tai.f k y216 5).bind fun bt242 => (if t219 = 78796799 then (if t220 = 0 then (if t221 = 78796799 then (if t222 = 0 then (if t223 = 78796800 then (if t224 = 0 then (if t225 = 15724799 then (if t226 = 0 then (if t228 = 11 then (if t229 = 912 then (if t230 = 0 then (if t231 = 0 then (if t232 = 78796799 then (if t233 = true then (if t235 = true then (none) else (if t236 = (-1) then (if t237 = 86399 then (if bt238.1 = true then (if bt238.2 = 0 then (if bt240.1 = true then (none) else (if bt240.2 = 0 then (some (bt242.2 == 9)) else (none))) else (none)) else (none)) else (none)) else (none))) else (none)) else (none)) else (none)) else (none)) else (none)) else (none)) else (none)) else (none)) else (none)) else (none)) else (none)) else (none)) else (none)) else (none))))) = some r := H
  have A9 := Aside0.mk A90
  clear A90
  replace H := Option.bind_eq_some_iff.mp H
  obtain ⟨⟨t238, t239⟩, A100, H⟩ := H
  replace H : ((posix_Twice.f k y216 78796800).bind fun bt240 => ((posix_Tai.f k y216 5).bind fun bt242 => (if t219 = 78796799 then (if t220 = 0 then (if t221 = 78796799 then (if t222 = 0 then (if t223 = 78796800 then (if t224 = 0 then (if t225 = 15724799 then (if t226 = 0 then (if t228 = 11 then (if t229 = 912 then (if t230 = 0 then (if t231 = 0 then (if t232 = 78796799 then (if t233 = true then (if t235 = true then (none) else (if t236 = (-1) then (if t237 = 86399 then (if t238 = true then (if t239 = 0 then (if bt240.1 = true then (none) else (if bt240.2 = 0 then (some (bt242.2 == 9)) else (none))) else (none)) else (none)) else (none)) else (none))) else (none)) else (none)) else (none)) else (none)) else (none)) else (none)) else (none)) else (none)) else (none)) else (none)) else (none)) else (none)) else (none)) else (none)))) = some r := H
  have A10 := Aside0.mk A100
  clear A100
  replace H := Option.bind_eq_some_iff.mp H
  obtain ⟨⟨t240, t241⟩, A110, H⟩ := H
  replace H : ((posix_Tai.f k y216 5).bind fun bt242 => (if t219 = 78796799 then (if t220 = 0 then (if t221 = 78796799 then (if t222 = 0 then (if t223 = 78796800 then (if t224 = 0 then (if t225 = 15724799 then (if t226 = 0 then (if t228 = 11 then (if t229 = 912 then (if t230 = 0 then (if t231 = 0 then (if t232 = 78796799 then (if t233 = true then (if t235 = true then (none) else (if t236 = (-1) then (if t237 = 86399 then (if t238 = true then (if t239 = 0 then (if t240 = true then (none) else (if t241 = 0 then (some (bt242.2 == 9)) else (none))) else (none)) else (none)) else (none)) else (none))) else (none)) else (none)) else (none)) else (none)) else (none)) else (none)) else (none)) else (none)) else (none)) else (none)) else (none)) else (none)) else (none)) else (none))) = some r := H
  have A11 := Aside0.mk A110
  clear A110
  replace H := Option.bind_eq_some_iff.mp H
  obtain ⟨⟨t242, t243⟩, A120, H⟩ := H
  replace H : (if t219 = 78796799 then (if t220 = 0 then (if t221 = 78796799 then (if t222 = 0 then (if t223 = 78796800 then (if t224 = 0 then (if t225 = 15724799 then (if t226 = 0 then (if t228 = 11 then (if t229 = 912 then (if t230 = 0 then (if t231 = 0 then (if t232 = 78796799 then (if t233 = true then (if t235 = true then (none) else (if t236 = (-1) then (if t237 = 86399 then (if t238 = true then (if t239 = 0 then (if t240 = true then (none) else (if t241 = 0 then (some (t243 == 9)) else (none))) else (none)) else (none)) else (none)) else (none))) else (none)) else (none)) else (none)) else (none)) else (none)) else (none)) else (none)) else (none)) else (none)) else (none)) else (none)) else (none)) else (none)) else (none)) = some r := H
  have A12 := Aside0.mk A120
  clear A120
  by_cases c13 : t219 = 78796799
  · rw [if_pos c13] at H
    have c13b0 : (t219 == 78796799) = true := beq_iff_eq.mpr c13
    have c13b1 : (t219 != 78796799) = false := bne_eq_false_iff_eq.mpr c13
    clear c13
    by_cases c14 : t220 = 0
    · rw [if_pos c14] at H
      have c14b0 : (t220 == 0) = true := beq_iff_eq.mpr c14
      have c14b1 : (t220 != 0) = false := bne_eq_false_iff_eq.mpr c14
      clear c14
      by_cases c15 : t221 = 78796799
      · rw [if_pos c15] at H
        have c15b0 : (t221 == 78796799) = true := beq_iff_eq.mpr c15
        have c15b1 : (t221 != 78796799) = false := bne_eq_false_iff_eq.mpr c15
        clear c15
        by_cases c16 : t222 = 0
        · rw [if_pos c16] at H
          have c16b0 : (t222 == 0) = true := beq_iff_eq.mpr c16
          have c16b1 : (t222 != 0) = false := bne_eq_false_iff_eq.mpr c16
          clear c16
          by_cases c17 : t223 = 78796800
          · rw [if_pos c17] at H
            have c17b0 : (t223 == 78796800) = true := beq_iff_eq.mpr c17
            have c17b1 : (t223 != 78796800) = false := bne_eq_false_iff_eq.mpr c17
            clear c17
            by_cases c18 : t224 = 0
            · rw [if_pos c18] at H
              have c18b0 : (t224 == 0) = true := beq_iff_eq.mpr c18
              have c18b1 : (t224 != 0) = false := bne_eq_false_iff_eq.mpr c18
              clear c18
              by_cases c19 : t225 = 15724799
              · rw [if_pos c19] at H
                have c19b0 : (t225 == 15724799) = true := beq_iff_eq.mpr c19
                have c19b1 : (t225 != 15724799) = false := bne_eq_false_iff_eq.mpr c19
                clear c19
                by_cases c20 : t226 = 0
                · rw [if_pos c20] at H
                  have c20b0 : (t226 == 0) = true := beq_iff_eq.mpr c20
                  have c20b1 : (t226 != 0) = false := bne_eq_false_iff_eq.mpr c20
                  clear c20
                  by_cases c21 : t228 = 11
                  · rw [if_pos c21] at H
                    have c21b0 : (t228 == 11) = true := beq_iff_eq.mpr c21
                    have c21b1 : (t228 != 11) = false := bne_eq_false_iff_eq.mpr c21
                    clear c21
                    by_cases c22 : t229 = 912
                    · rw [if_pos c22] at H
                      have c22b0 : (t229 == 912) = true := beq_iff_eq.mpr c22
                      have c22b1 : (t229 != 912) = false := bne_eq_false_iff_eq.mpr c22
                      clear c22
                      by_cases c23 : t230 = 0
                      · rw [if_pos c23] at H
                        have c23b0 : (t230 == 0) = true := beq_iff_eq.mpr c23
                        have c23b1 : (t230 != 0) = false := bne_eq_false_iff_eq.mpr c23
                        clear c23
                        by_cases c24 : t231 = 0
                        · rw [if_pos c24] at H
                          have c24b0 : (t231 == 0) = true := beq_iff_eq.mpr c24
                          have c24b1 : (t231 != 0) = false := bne_eq_false_iff_eq.mpr c24
                          clear c24
                          by_cases c25 : t232 = 78796799
                          · rw [if_pos c25] at H
                            have c25b0 : (t232 == 78796799) = true := beq_iff_eq.mpr c25
                            have c25b1 : (t232 != 78796799) = false := bne_eq_false_iff_eq.mpr c25
                            clear c25
                            by_cases c26 : t233 = true
                            · subst c26
                              have H1 : (if t235 = true then (none) else (if t236 = (-1) then (if t237 = 86399 then (if t238 = true then (if t239 = 0 then (if t240 = true then (none) else (if t241 = 0 then (some (t243 == 9)) else (none))) else (none)) else (none)) else (none)) else (none))) = some r := by rw [if_pos rfl] at H; exact H
                              clear H
                              have H := H1
                              clear H1
                              by_cases c27 : t235 = true
                              · subst c27
                                have H1 : (none) = some r := by rw [if_pos rfl] at H; exact H
                                clear H
                                have H := H1
                                clear H1
                                exact absurd H (by simp)
                              · replace c27 := Bool.eq_false_iff.mpr c27
                                subst c27
                                have H1 : (if t236 = (-1) then (if t237 = 86399 then (if t238 = true then (if t239 = 0 then (if t240 = true then (none) else (if t241 = 0 then (some (t243 == 9)) else (none))) else (none)) else (none)) else (none)) else (none)) = some r := by rw [if_neg (show ¬ (false = true) by decide)] at H; exact H
                                clear H
                                have H := H1
                                clear H1
                                by_cases c28 : t236 = (-1)
                                · rw [if_pos c28] at H
                                  have c28b0 : (t236 == (-1)) = true := beq_iff_eq.mpr c28
                                  have c28b1 : (t236 != (-1)) = false := bne_eq_false_iff_eq.mpr c28
                                  clear c28
                                  by_cases c29 : t237 = 86399
                                  · rw [if_pos c29] at H
                                    have c29b0 : (t237 == 86399) = true := beq_iff_eq.mpr c29
                                    have c29b1 : (t237 != 86399) = false := bne_eq_false_iff_eq.mpr c29
                                    clear c29
                                    by_cases c30 : t238 = true
                                    · subst c30
                                      have H1 : (if t239 = 0 then (if t240 = true then (none) else (if t241 = 0 then (some (t243 == 9)) else (none))) else (none)) = some r := by rw [if_pos rfl] at H; exact H
                                      clear H
                                      have H := H1
                                      clear H1
                                      by_cases c31 : t239 = 0
                                      · rw [if_pos c31] at H
                                        have c31b0 : (t239 == 0) = true := beq_iff_eq.mpr c31
                                        have c31b1 : (t239 != 0) = false := bne_eq_false_iff_eq.mpr c31
                                        clear c31
                                        by_cases c32 : t240 = true
                                        · subst c32
                                          have H1 : (none) = some r := by rw [if_pos rfl] at H; exact H
                                          clear H
                                          have H := H1
                                          clear H1
                                          exact absurd H (by simp)
                                        · replace c32 := Bool.eq_false_iff.mpr c32
                                          subst c32
                                          have H1 : (if t241 = 0 then (some (t243 == 9)) else (none)) = some r := by rw [if_neg (show ¬ (false = true) by decide)] at H; exact H
                                          clear H
                                          have H := H1
                                          clear H1
                                          by_cases c33 : t241 = 0
                                          · rw [if_pos c33] at H
                                            have c33b0 : (t241 == 0) = true := beq_iff_eq.mpr c33
                                            have c33b1 : (t241 != 0) = false := bne_eq_false_iff_eq.mpr c33
                                            clear c33
                                            obtain rfl := Option.some.inj H
                                            go_enter Try.func8, Try.ntmps8
                                            go_wp2_with (first | ((with_reducible refine gate_dst (N := 29) rfl ?_); refine Kd.R_lit k40 _ 40 ?hg (N := 29) ?hd (xs := ([(⟨78796800, 1⟩ : S40), (⟨126230400, 0⟩ : S40)] : List (S40))) (inner := [.int .i64 78796800, .int .i64 1, .int .i64 126230400, .int .i64 0]) (ok := fun _ => True) (okp := fun _ => True) ?hr ?hp (fun _ hk => hk) trivial (Below.refl _ _) (Nat.le_refl _) (by simp) ?_; (case hd => rfl); (case hg => rfl); (case hr => first | (go_simp; done) | (go_simp; rfl)); (case hp => exact (Reps.c2 (show Kd.M k40 _ _ _ (⟨78796800, 1⟩ : S40) [.int .i64 78796800, .int .i64 1] from (k40_mkM _ _ _ (⟨78796800, 1⟩ : S40) )) (Reps.c2 (show Kd.M k40 _ _ _ (⟨126230400, 0⟩ : S40) [.int .i64 126230400, .int .i64 0] from (k40_mkM _ _ _ (⟨126230400, 0⟩ : S40) )) (Reps.none _ _)))); intro v217 w34 ho35 hb hg_ hnew_; clear hg_ hnew_; (first | rw [← Ny216.out] at ho35 | (simp only [Int.reduceToNat] at ho35; rw [← Ny216.out] at ho35)); have n0_ := Aside0.mk (Kd.R_lower ho35 (below_size (by repeat (first | (with_reducible first | exact HB.out | apply below_alloc | apply pw_below_drewN | apply below_drew1) | exact HB.out)))); have n1_ := Aside0.mk (below_step (by repeat (first | (with_reducible first | exact HB.out | apply below_alloc | apply pw_below_drewN | apply below_drew1) | exact HB.out)) hb); clear HB; have HO218 := n0_; have HB := n1_; clear n0_ n1_; clear hb ho35; obtain ⟨Ao36, co36, eo36⟩ := Kd.R_slice HO218.out; subst eo36) | ((with_reducible refine gate_callee (f := 17) rfl ?_); refine goesL_ (some 32) rfl rfl Try.func17 (by kernel_rfl) rfl #[.slice Ao36 y216.length co36, .int .i64 15724799] rfl (by (try simp only [List.map_toArray, List.map_cons, List.map_nil]); first | done | rfl | (simp only [List.length_drop, List.length_take]; rfl)) ?_; (with_reducible refine (posix_From.calls k _ _ y216 15724799 t219 t220 _ ?side1 ?side2 A1.out).mono ?_); (case side1 => repeat (first | exact (Kd.R_reads' HO218.out).2.2 | (with_reducible refine Kd.C_alloc ?_ _) | (with_reducible refine Kd.C_drewN ?_ _) | (with_reducible refine Kd.C_drew ?_))); (case side2 => exact (Kd.R_reads' HO218.out).2.1); rintro e w37 ⟨rfl, hb⟩; refine ⟨_, rfl, ?_⟩; have n0_ := Aside0.mk (Kd.R_below (by (with_reducible repeat (first | apply Kd.R_alloc | apply Kd.R_drewN | apply Kd.R_drew)); exact HO218.out) hb); have n1_ := Aside0.mk (below_step (by repeat (first | (with_reducible first | exact HB.out | apply below_alloc | apply pw_below_drewN | apply below_drew1) | exact HB.out)) hb); clear HO218; clear HB; have HO218 := n0_; have HB := n1_; clear n0_ n1_; (try clear hb); (try clear hb2); (try clear hk); (try clear hi)) | ((with_reducible refine gate_callee (f := 17) rfl ?_); refine goesL_ (some 37) rfl rfl Try.func17 (by kernel_rfl) rfl #[.slice Ao36 y216.length co36, .int .i64 15724800] rfl (by (try simp only [List.map_toArray, List.map_cons, List.map_nil]); first | done | rfl | (simp only [List.length_drop, List.length_take]; rfl)) ?_; (with_reducible refine (posix_From.calls k _ _ y216 15724800 t221 t222 _ ?side1 ?side2 A2.out).mono ?_); (case side1 => repeat (first | exact (Kd.R_reads' HO218.out).2.2 | (with_reducible refine Kd.C_alloc ?_ _) | (with_reducible refine Kd.C_drewN ?_ _) | (with_reducible refine Kd.C_drew ?_))); (case side2 => exact (Kd.R_reads' HO218.out).2.1); rintro e w38 ⟨rfl, hb⟩; refine ⟨_, rfl, ?_⟩; have n0_ := Aside0.mk (Kd.R_below (by (with_reducible repeat (first | apply Kd.R_alloc | apply Kd.R_drewN | apply Kd.R_drew)); exact HO218.out) hb); have n1_ := Aside0.mk (below_step (by repeat (first | (with_reducible first | exact HB.out | apply below_alloc | apply pw_below_drewN | apply below_drew1) | exact HB.out)) hb); clear HO218; clear HB; have HO218 := n0_; have HB := n1_; clear n0_ n1_; (try clear hb); (try clear hb2); (try clear hk); (try clear hi)) | ((with_reducible refine gate_callee (f := 17) rfl ?_); refine goesL_ (some 42) rfl rfl Try.func17 (by kernel_rfl) rfl #[.slice Ao36 y216.length co36, .int .i64 15724801] rfl (by (try simp only [List.map_toArray, List.map_cons, List.map_nil]); first | done | rfl | (simp only [List.length_drop, List.length_take]; rfl)) ?_; (with_reducible refine (posix_From.calls k _ _ y216 15724801 t223 t224 _ ?side1 ?side2 A3.out).mono ?_); (case side1 => repeat (first | exact (Kd.R_reads' HO218.out).2.2 | (with_reducible refine Kd.C_alloc ?_ _) | (with_reducible refine Kd.C_drewN ?_ _) | (with_reducible refine Kd.C_drew ?_))); (case side2 => exact (Kd.R_reads' HO218.out).2.1); rintro e w39 ⟨rfl, hb⟩; refine ⟨_, rfl, ?_⟩; have n0_ := Aside0.mk (Kd.R_below (by (with_reducible repeat (first | apply Kd.R_alloc | apply Kd.R_drewN | apply Kd.R_drew)); exact HO218.out) hb); have n1_ := Aside0.mk (below_step (by repeat (first | (with_reducible first | exact HB.out | apply below_alloc | apply pw_below_drewN | apply below_drew1) | exact HB.out)) hb); clear HO218; clear HB; have HO218 := n0_; have HB := n1_; clear n0_ n1_; (try clear hb); (try clear hb2); (try clear hk); (try clear hi)) | ((with_reducible refine gate_callee (f := 15) rfl ?_); refine goesL_ (some 47) rfl rfl Try.func15 (by kernel_rfl) rfl #[.slice Ao36 y216.length co36, .int .i64 78796799] rfl (by (try simp only [List.map_toArray, List.map_cons, List.map_nil]); first | done | rfl | (simp only [List.length_drop, List.length_take]; rfl)) ?_; (with_reducible refine (posix_Tai.calls k _ _ y216 78796799 t225 t226 _ ?side1 ?side2 A4.out).mono ?_); (case side1 => repeat (first | exact (Kd.R_reads' HO218.out).2.2 | (with_reducible refine Kd.C_alloc ?_ _) | (with_reducible refine Kd.C_drewN ?_ _) | (with_reducible refine Kd.C_drew ?_))); (case side2 => exact (Kd.R_reads' HO218.out).2.1); rintro e w40 ⟨rfl, hb⟩; refine ⟨_, rfl, ?_⟩; have n0_ := Aside0.mk (Kd.R_below (by (with_reducible repeat (first | apply Kd.R_alloc | apply Kd.R_drewN | apply Kd.R_drew)); exact HO218.out) hb); have n1_ := Aside0.mk (below_step (by repeat (first | (with_reducible first | exact HB.out | apply below_alloc | apply pw_below_drewN | apply below_drew1) | exact HB.out)) hb); clear HO218; clear HB; have HO218 := n0_; have HB := n1_; clear n0_ n1_; (try clear hb); (try clear hb2); (try clear hk); (try clear hi)) | ((with_reducible refine gate_callee (f := 15) rfl ?_); refine goesL_ (some 52) rfl rfl Try.func15 (by kernel_rfl) rfl #[.slice Ao36 y216.length co36, .int .i64 126230399] rfl (by (try simp only [List.map_toArray, List.map_cons, List.map_nil]); first | done | rfl | (simp only [List.length_drop, List.length_take]; rfl)) ?_; (with_reducible refine (posix_Tai.calls k _ _ y216 126230399 t227 t228 _ ?side1 ?side2 A5.out).mono ?_); (case side1 => repeat (first | exact (Kd.R_reads' HO218.out).2.2 | (with_reducible refine Kd.C_alloc ?_ _) | (with_reducible refine Kd.C_drewN ?_ _) | (with_reducible refine Kd.C_drew ?_))); (case side2 => exact (Kd.R_reads' HO218.out).2.1); rintro e w41 ⟨rfl, hb⟩; refine ⟨_, rfl, ?_⟩; have n0_ := Aside0.mk (Kd.R_below (by (with_reducible repeat (first | apply Kd.R_alloc | apply Kd.R_drewN | apply Kd.R_drew)); exact HO218.out) hb); have n1_ := Aside0.mk (below_step (by repeat (first | (with_reducible first | exact HB.out | apply below_alloc | apply pw_below_drewN | apply below_drew1) | exact HB.out)) hb); clear HO218; clear HB; have HO218 := n0_; have HB := n1_; clear n0_ n1_; (try clear hb); (try clear hb2); (try clear hk); (try clear hi)) | ((with_reducible refine gate_callee (f := 13) rfl ?_); refine goesL_ (some 57) rfl rfl Try.func13 (by kernel_rfl) rfl #[.slice Ao36 y216.length co36, .int .i64 78796800] rfl (by (try simp only [List.map_toArray, List.map_cons, List.map_nil]); first | done | rfl | (simp only [List.length_drop, List.length_take]; rfl)) ?_; (with_reducible refine (posix_Utc.calls k _ _ y216 78796800 t229 t230 t231 _ ?side1 ?side2 A6.out).mono ?_); (case side1 => repeat (first | exact (Kd.R_reads' HO218.out).2.2 | (with_reducible refine Kd.C_alloc ?_ _) | (with_reducible refine Kd.C_drewN ?_ _) | (with_reducible refine Kd.C_drew ?_))); (case side2 => exact (Kd.R_reads' HO218.out).2.1); rintro e w42 ⟨rfl, hb⟩; refine ⟨_, rfl, ?_⟩; have n0_ := Aside0.mk (Kd.R_below (by (with_reducible repeat (first | apply Kd.R_alloc | apply Kd.R_drewN | apply Kd.R_drew)); exact HO218.out) hb); have n1_ := Aside0.mk (below_step (by repeat (first | (with_reducible first | exact HB.out | apply below_alloc | apply pw_below_drewN | apply below_drew1) | exact HB.out)) hb); clear HO218; clear HB; have HO218 := n0_; have HB := n1_; clear n0_ n1_; (try clear hb); (try clear hb2); (try clear hk); (try clear hi)) | ((with_reducible refine gate_callee (f := 9) rfl ?_); refine goesL_ (some 62) rfl rfl Try.func9 (by kernel_rfl) rfl #[.int .i64 911, .int .i64 86400] rfl (by (try simp only [List.map_toArray, List.map_cons, List.map_nil]); first | done | rfl | (simp only [List.length_drop, List.length_take]; rfl)) ?_; (with_reducible refine (posix_Of.calls 911 86400 t232 true _ A7.out).mono ?_); rintro e w43 ⟨rfl, hb⟩; refine ⟨_, rfl, ?_⟩; have n0_ := Aside0.mk (Kd.R_below (by (with_reducible repeat (first | apply Kd.R_alloc | apply Kd.R_drewN | apply Kd.R_drew)); exact HO218.out) hb); have n1_ := Aside0.mk (below_step (by repeat (first | (with_reducible first | exact HB.out | apply below_alloc | apply pw_below_drewN | apply below_drew1) | exact HB.out)) hb); clear HO218; clear HB; have HO218 := n0_; have HB := n1_; clear n0_ n1_; (try clear hb); (try clear hb2); (try clear hk); (try clear hi)) | ((with_reducible refine gate_callee (f := 9) rfl ?_); refine goesL_ (some 66) rfl rfl Try.func9 (by kernel_rfl) rfl #[.int .i64 0, .int .i64 86401] rfl (by (try simp only [List.map_toArray, List.map_cons, List.map_nil]); first | done | rfl | (simp only [List.length_drop, List.length_take]; rfl)) ?_; (with_reducible refine (posix_Of.calls 0 86401 t234 false _ A8.out).mono ?_); rintro e w44 ⟨rfl, hb⟩; refine ⟨_, rfl, ?_⟩; have n0_ := Aside0.mk (Kd.R_below (by (with_reducible repeat (first | apply Kd.R_alloc | apply Kd.R_drewN | apply Kd.R_drew)); exact HO218.out) hb); have n1_ := Aside0.mk (below_step (by repeat (first | (with_reducible first | exact HB.out | apply below_alloc | apply pw_below_drewN | apply below_drew1) | exact HB.out)) hb); clear HO218; clear HB; have HO218 := n0_; have HB := n1_; clear n0_ n1_; (try clear hb); (try clear hb2); (try clear hk); (try clear hi)) | ((with_reducible refine gate_callee (f := 11) rfl ?_); refine goesL_ (some 70) rfl rfl Try.func11 (by kernel_rfl) rfl #[.int .i64 (-1)] rfl (by (try simp only [List.map_toArray, List.map_cons, List.map_nil]); first | done | rfl | (simp only [List.length_drop, List.length_take]; rfl)) ?_; (with_reducible refine (posix_Day.calls (-1) t236 t237 _ A9.out).mono ?_); rintro e w' ⟨rfl, ⟨nd, rfl⟩⟩; refine ⟨_, rfl, ?_⟩) | ((with_reducible refine gate_callee (f := 19) rfl ?_); refine goesL_ (some 75) rfl rfl Try.func19 (by kernel_rfl) rfl #[.slice Ao36 y216.length co36, .int .i64 78796799] rfl (by (try simp only [List.map_toArray, List.map_cons, List.map_nil]); first | done | rfl | (simp only [List.length_drop, List.length_take]; rfl)) ?_; (with_reducible refine (posix_Twice.calls k _ _ y216 78796799 true t239 _ ?side1 ?side2 A10.out).mono ?_); (case side1 => repeat (first | exact (Kd.R_reads' HO218.out).2.2 | (with_reducible refine Kd.C_alloc ?_ _) | (with_reducible refine Kd.C_drewN ?_ _) | (with_reducible refine Kd.C_drew ?_))); (case side2 => exact (Kd.R_reads' HO218.out).2.1); rintro e w45 ⟨rfl, hb⟩; refine ⟨_, rfl, ?_⟩; have n0_ := Aside0.mk (Kd.R_below (by (with_reducible repeat (first | apply Kd.R_alloc | apply Kd.R_drewN | apply Kd.R_drew)); exact HO218.out) hb); have n1_ := Aside0.mk (below_step (by repeat (first | (with_reducible first | exact HB.out | apply below_alloc | apply pw_below_drewN | apply below_drew1) | exact HB.out)) hb); clear HO218; clear HB; have HO218 := n0_; have HB := n1_; clear n0_ n1_; (try clear hb); (try clear hb2); (try clear hk); (try clear hi)) | ((with_reducible refine gate_callee (f := 19) rfl ?_); refine goesL_ (some 80) rfl rfl Try.func19 (by kernel_rfl) rfl #[.slice Ao36 y216.length co36, .int .i64 78796800] rfl (by (try simp only [List.map_toArray, List.map_cons, List.map_nil]); first | done | rfl | (simp only [List.length_drop, List.length_take]; rfl)) ?_; (with_reducible refine (posix_Twice.calls k _ _ y216 78796800 false t241 _ ?side1 ?side2 A11.out).mono ?_); (case side1 => repeat (first | exact (Kd.R_reads' HO218.out).2.2 | (with_reducible refine Kd.C_alloc ?_ _) | (with_reducible refine Kd.C_drewN ?_ _) | (with_reducible refine Kd.C_drew ?_))); (case side2 => exact (Kd.R_reads' HO218.out).2.1); rintro e w46 ⟨rfl, hb⟩; refine ⟨_, rfl, ?_⟩; have n0_ := Aside0.mk (Kd.R_below (by (with_reducible repeat (first | apply Kd.R_alloc | apply Kd.R_drewN | apply Kd.R_drew)); exact HO218.out) hb); have n1_ := Aside0.mk (below_step (by repeat (first | (with_reducible first | exact HB.out | apply below_alloc | apply pw_below_drewN | apply below_drew1) | exact HB.out)) hb); clear HO218; clear HB; have HO218 := n0_; have HB := n1_; clear n0_ n1_; (try clear hb); (try clear hb2); (try clear hk); (try clear hi)) | ((with_reducible refine gate_callee (f := 15) rfl ?_); refine goesL_ (some 85) rfl rfl Try.func15 (by kernel_rfl) rfl #[.slice Ao36 y216.length co36, .int .i64 5] rfl (by (try simp only [List.map_toArray, List.map_cons, List.map_nil]); first | done | rfl | (simp only [List.length_drop, List.length_take]; rfl)) ?_; (with_reducible refine (posix_Tai.calls k _ _ y216 5 t242 t243 _ ?side1 ?side2 A12.out).mono ?_); (case side1 => repeat (first | exact (Kd.R_reads' HO218.out).2.2 | (with_reducible refine Kd.C_alloc ?_ _) | (with_reducible refine Kd.C_drewN ?_ _) | (with_reducible refine Kd.C_drew ?_))); (case side2 => exact (Kd.R_reads' HO218.out).2.1); rintro e w47 ⟨rfl, hb⟩; refine ⟨_, rfl, ?_⟩; have n0_ := Aside0.mk (Kd.R_below (by (with_reducible repeat (first | apply Kd.R_alloc | apply Kd.R_drewN | apply Kd.R_drew)); exact HO218.out) hb); have n1_ := Aside0.mk (below_step (by repeat (first | (with_reducible first | exact HB.out | apply below_alloc | apply pw_below_drewN | apply below_drew1) | exact HB.out)) hb); clear HO218; clear HB; have HO218 := n0_; have HB := n1_; clear n0_ n1_; (try clear hb); (try clear hb2); (try clear hk); (try clear hi)))
                                            go_ret
                                            exact ⟨by first | rfl | (simp [errW_none, errW_some] <;> rfl) | (simp [*, errW_none, errW_some] <;> rfl), by repeat (first | (with_reducible first | exact HB.out | apply below_alloc | apply pw_below_drewN | apply below_drew1) | exact HB.out)⟩
                                          · rw [if_neg c33] at H
                                            exact absurd H (by simp)
                                      · rw [if_neg c31] at H
                                        exact absurd H (by simp)
                                    · replace c30 := Bool.eq_false_iff.mpr c30
                                      subst c30
                                      have H1 : (none) = some r := by rw [if_neg (show ¬ (false = true) by decide)] at H; exact H
                                      clear H
                                      have H := H1
                                      clear H1
                                      exact absurd H (by simp)
                                  · rw [if_neg c29] at H
                                    exact absurd H (by simp)
                                · rw [if_neg c28] at H
                                  exact absurd H (by simp)
                            · replace c26 := Bool.eq_false_iff.mpr c26
                              subst c26
                              have H1 : (none) = some r := by rw [if_neg (show ¬ (false = true) by decide)] at H; exact H
                              clear H
                              have H := H1
                              clear H1
                              exact absurd H (by simp)
                          · rw [if_neg c25] at H
                            exact absurd H (by simp)
                        · rw [if_neg c24] at H
                          exact absurd H (by simp)
                      · rw [if_neg c23] at H
                        exact absurd H (by simp)
                    · rw [if_neg c22] at H
                      exact absurd H (by simp)
                  · rw [if_neg c21] at H
                    exact absurd H (by simp)
                · rw [if_neg c20] at H
                  exact absurd H (by simp)
              · rw [if_neg c19] at H
                exact absurd H (by simp)
            · rw [if_neg c18] at H
              exact absurd H (by simp)
          · rw [if_neg c17] at H
            exact absurd H (by simp)
        · rw [if_neg c16] at H
          exact absurd H (by simp)
      · rw [if_neg c15] at H
        exact absurd H (by simp)
    · rw [if_neg c14] at H
      exact absurd H (by simp)
  · rw [if_neg c13] at H
    exact absurd H (by simp)

/-! ### epactref23_Of: function 10 -/
def epactref23_Of.f (a0 : Int) (a1 : Int) : Option (Int × Bool) := if a0 < (-719162) then (some (0, false)) else (if a0 > 2932896 then (some (0, false)) else (if a1 < 0 then (some (0, false)) else (if a1 > 86400 then (some (0, false)) else (some (wrap64 ((wrap64 (86400 * a0)) + (mn a1 86399)), true)))))
set_option maxHeartbeats 8000000 in
set_option maxRecDepth 100000 in
theorem epactref23_Of.calls (a0 : Int) (a1 : Int) (r1 : Int) (r2 : Bool) (w : World) (h : epactref23_Of.f a0 a1 = some (r1, r2)) :
    Calls Try.prog 10 #[.int .i64 a0, .int .i64 a1] w fun e w' => e = .returned (.tuple #[.int .i64 r1, .bool r2]) ∧ Below w.heap.size w w' := by
  have HB := Aside0.mk (Below.refl w.heap.size w)
  have H : (if a0 < (-719162) then (some (0, false)) else (if a0 > 2932896 then (some (0, false)) else (if a1 < 0 then (some (0, false)) else (if a1 > 86400 then (some (0, false)) else (some (wrap64 ((wrap64 (86400 * a0)) + (mn a1 86399)), true)))))) = some (r1, r2) := h
  clear h
  by_cases c3 : a0 < (-719162)
  · rw [if_pos c3] at H
    have c3b0 : decide (a0 < (-719162)) = true := decide_eq_true c3
    clear c3
    simp only [Option.some.injEq, Prod.mk.injEq] at H
    obtain ⟨rfl, rfl⟩ := H
    go_enter Try.func10, Try.ntmps10
    go_wp2
    go_ret2
    exact ⟨by first | rfl | (simp [errW_none, errW_some] <;> rfl) | (simp [*, errW_none, errW_some] <;> rfl), by repeat (first | (with_reducible first | exact HB.out | apply below_alloc | apply pw_below_drewN | apply below_drew1) | exact HB.out)⟩
  · rw [if_neg c3] at H
    have c3b0 : decide (a0 < (-719162)) = false := decide_eq_false c3
    clear c3
    by_cases c4 : a0 > 2932896
    · rw [if_pos c4] at H
      have c4b0 : decide (2932896 < a0) = true := decide_eq_true c4
      clear c4
      simp only [Option.some.injEq, Prod.mk.injEq] at H
      obtain ⟨rfl, rfl⟩ := H
      go_enter Try.func10, Try.ntmps10
      go_wp2
      go_ret2
      exact ⟨by first | rfl | (simp [errW_none, errW_some] <;> rfl) | (simp [*, errW_none, errW_some] <;> rfl), by repeat (first | (with_reducible first | exact HB.out | apply below_alloc | apply pw_below_drewN | apply below_drew1) | exact HB.out)⟩
    · rw [if_neg c4] at H
      have c4b0 : decide (2932896 < a0) = false := decide_eq_false c4
      clear c4
      by_cases c5 : a1 < 0
      · rw [if_pos c5] at H
        have c5b0 : decide (a1 < 0) = true := decide_eq_true c5
        clear c5
        simp only [Option.some.injEq, Prod.mk.injEq] at H
        obtain ⟨rfl, rfl⟩ := H
        go_enter Try.func10, Try.ntmps10
        go_wp2
        go_ret2
        exact ⟨by first | rfl | (simp [errW_none, errW_some] <;> rfl) | (simp [*, errW_none, errW_some] <;> rfl), by repeat (first | (with_reducible first | exact HB.out | apply below_alloc | apply pw_below_drewN | apply below_drew1) | exact HB.out)⟩
      · rw [if_neg c5] at H
        have c5b0 : decide (a1 < 0) = false := decide_eq_false c5
        clear c5
        by_cases c6 : a1 > 86400
        · rw [if_pos c6] at H
          have c6b0 : decide (86400 < a1) = true := decide_eq_true c6
          clear c6
          simp only [Option.some.injEq, Prod.mk.injEq] at H
          obtain ⟨rfl, rfl⟩ := H
          go_enter Try.func10, Try.ntmps10
          go_wp2
          go_ret2
          exact ⟨by first | rfl | (simp [errW_none, errW_some] <;> rfl) | (simp [*, errW_none, errW_some] <;> rfl), by repeat (first | (with_reducible first | exact HB.out | apply below_alloc | apply pw_below_drewN | apply below_drew1) | exact HB.out)⟩
        · rw [if_neg c6] at H
          have c6b0 : decide (86400 < a1) = false := decide_eq_false c6
          clear c6
          obtain ⟨ji7, hji7⟩ : ∃ j_ : Int, (mn a1 86399) = j_ := ⟨_, rfl⟩
          replace H : (some (wrap64 ((wrap64 (86400 * a0)) + (ji7)), true)) = some (r1, r2) := by first | (rw [hji7] at H; exact H) | (simp only [hji7] at H ⊢; exact H)
          (try (have hji7h : ji7 ≤ 86399 := by (rw [← hji7]; unfold mn; (repeat' split) <;> omega)))
          (try (have hji7g : ji7 ≤ 64 := by omega))
          have hji7_ : (if 86399 < a1 then 86399 else a1) = ji7 := hji7
          simp only [Option.some.injEq, Prod.mk.injEq] at H
          obtain ⟨rfl, rfl⟩ := H
          go_enter Try.func10, Try.ntmps10
          go_wp2
          go_ret2
          exact ⟨by first | rfl | (simp [errW_none, errW_some] <;> rfl) | (simp only [← hji7]; first | rfl | (simp [errW_none, errW_some] <;> rfl)) | (simp [*, errW_none, errW_some] <;> rfl), by repeat (first | (with_reducible first | exact HB.out | apply below_alloc | apply pw_below_drewN | apply below_drew1) | exact HB.out)⟩

/-! ### epactref01_Div: function 24 -/
def epactref01_Div.f (a0 : Int) (a1 : Int) : Option (Int × Int × Bool) := if a1 < 1 then (some (0, 0, false)) else (if a1 = 0 then (none) else (if (Int.tmod a0 a1) < 0 then (some (wrap64 ((wrap64 (Int.tdiv a0 a1)) - 1), wrap64 ((Int.tmod a0 a1) + a1), true)) else (some (wrap64 (Int.tdiv a0 a1), Int.tmod a0 a1, true))))
set_option maxHeartbeats 8000000 in
set_option maxRecDepth 100000 in
theorem epactref01_Div.calls (a0 : Int) (a1 : Int) (r1 : Int) (r2 : Int) (r3 : Bool) (w : World) (h : epactref01_Div.f a0 a1 = some (r1, r2, r3)) :
    Calls Try.prog 24 #[.int .i64 a0, .int .i64 a1] w fun e w' => e = .returned (.tuple #[.int .i64 r1, .int .i64 r2, .bool r3]) ∧ Drawn0 w w' := by
  have H : (if a1 < 1 then (some (0, 0, false)) else (if a1 = 0 then (none) else (if (Int.tmod a0 a1) < 0 then (some (wrap64 ((wrap64 (Int.tdiv a0 a1)) - 1), wrap64 ((Int.tmod a0 a1) + a1), true)) else (some (wrap64 (Int.tdiv a0 a1), Int.tmod a0 a1, true))))) = some (r1, r2, r3) := h
  clear h
  by_cases c3 : a1 < 1
  · rw [if_pos c3] at H
    have c3b0 : decide (a1 < 1) = true := decide_eq_true c3
    clear c3
    simp only [Option.some.injEq, Prod.mk.injEq] at H
    obtain ⟨rfl, rfl, rfl⟩ := H
    go_enter Try.func24, Try.ntmps24
    go_wp2
    go_ret3
    exact ⟨by first | rfl | (simp; done) | (simp [*]; done), by repeat (first | exact Drawn0.refl _ | apply Drawn0.step)⟩
  · rw [if_neg c3] at H
    have c3b0 : decide (a1 < 1) = false := decide_eq_false c3
    clear c3
    by_cases c4 : a1 = 0
    · rw [if_pos c4] at H
      exact absurd H (by simp)
    · rw [if_neg c4] at H
      have c4b0 : (a1 == 0) = false := beq_eq_false_iff_ne.mpr c4
      have c4b1 : (a1 != 0) = true := bne_iff_ne.mpr c4
      by_cases c5 : (Int.tmod a0 a1) < 0
      · rw [if_pos c5] at H
        have c5b0 : decide ((Int.tmod a0 a1) < 0) = true := decide_eq_true c5
        clear c5
        simp only [Option.some.injEq, Prod.mk.injEq] at H
        obtain ⟨rfl, rfl, rfl⟩ := H
        go_enter Try.func24, Try.ntmps24
        go_wp2
        go_ret3
        exact ⟨by first | rfl | (simp; done) | (simp [*]; done), by repeat (first | exact Drawn0.refl _ | apply Drawn0.step)⟩
      · rw [if_neg c5] at H
        have c5b0 : decide ((Int.tmod a0 a1) < 0) = false := decide_eq_false c5
        clear c5
        simp only [Option.some.injEq, Prod.mk.injEq] at H
        obtain ⟨rfl, rfl, rfl⟩ := H
        go_enter Try.func24, Try.ntmps24
        go_wp2
        go_ret3
        exact ⟨by first | rfl | (simp; done) | (simp [*]; done), by repeat (first | exact Drawn0.refl _ | apply Drawn0.step)⟩

/-! ### epactref23_Day: function 12 -/
def epactref23_Day.f (a0 : Int) : Option (Int × Int) := (epactref01_Div.f a0 86400).bind fun bt244 => (some (bt244.1, bt244.2.1))
set_option maxHeartbeats 8000000 in
set_option maxRecDepth 100000 in
theorem epactref23_Day.calls (a0 : Int) (r1 : Int) (r2 : Int) (w : World) (h : epactref23_Day.f a0 = some (r1, r2)) :
    Calls Try.prog 12 #[.int .i64 a0] w fun e w' => e = .returned (.tuple #[.int .i64 r1, .int .i64 r2]) ∧ Drawn0 w w' := by
  have H : ((epactref01_Div.f a0 86400).bind fun bt244 => (some (bt244.1, bt244.2.1))) = some (r1, r2) := h
  clear h
  replace H := Option.bind_eq_some_iff.mp H
  obtain ⟨⟨t244, t245, t246⟩, A20, H⟩ := H
  replace H : (some (t244, t245)) = some (r1, r2) := H
  have A2 := Aside0.mk A20
  clear A20
  simp only [Option.some.injEq, Prod.mk.injEq] at H
  obtain ⟨rfl, rfl⟩ := H
  go_enter Try.func12, Try.ntmps12
  go_wp2_with (first | ((with_reducible refine gate_callee (f := 24) rfl ?_); refine goesL_ (some 9) rfl rfl Try.func24 (by kernel_rfl) rfl #[.int .i64 a0, .int .i64 86400] rfl (by (try simp only [List.map_toArray, List.map_cons, List.map_nil]); first | done | rfl | (simp only [List.length_drop, List.length_take]; rfl)) ?_; (with_reducible refine (epactref01_Div.calls a0 86400 t244 t245 t246 _ A2.out).mono ?_); rintro e w' ⟨rfl, ⟨nd, rfl⟩⟩; refine ⟨_, rfl, ?_⟩))
  go_ret2
  exact ⟨by first | rfl | (simp; done) | (simp [*]; done), by repeat (first | exact Drawn0.refl _ | apply Drawn0.step)⟩

/-! ### epactref12_ahead: function 60 -/
def epactref12_ahead.f (l0 : List (S40)) (a1 : Int) : Option (Int) := if a1 = 0 then (some 0) else (if 0 ≤ (wrap64 (a1 - 1)) then (if (wrap64 (a1 - 1)) < (l0.length : Int) then (some ((rd_T40 l0 (wrap64 (a1 - 1))).f1)) else (none)) else (none))
set_option maxHeartbeats 8000000 in
set_option maxRecDepth 100000 in
theorem epactref12_ahead.calls (A0 : Option Addr) (c0 : Nat) (l0 : List (S40)) (a1 : Int) (r : Int) (w : World) (hr0 : Kd.C k40 w A0 l0.length l0) (hc0 : l0.length ≤ c0) (h : epactref12_ahead.f l0 a1 = some r) :
    Calls Try.prog 60 #[.slice A0 l0.length c0, .int .i64 a1] w fun e w' => e = .returned (.int .i64 r) ∧ Drawn0 w w' := by
  have HR0 := Aside0.mk hr0
  have HC0 := Aside0.mk hc0
  clear hr0 hc0
  have H : (if a1 = 0 then (some 0) else (if 0 ≤ (wrap64 (a1 - 1)) then (if (wrap64 (a1 - 1)) < (l0.length : Int) then (some ((rd_T40 l0 (wrap64 (a1 - 1))).f1)) else (none)) else (none))) = some r := h
  clear h
  by_cases c3 : a1 = 0
  · rw [if_pos c3] at H
    have c3b0 : (a1 == 0) = true := beq_iff_eq.mpr c3
    have c3b1 : (a1 != 0) = false := bne_eq_false_iff_eq.mpr c3
    clear c3
    obtain rfl := Option.some.inj H
    go_enter Try.func60, Try.ntmps60
    go_wp2
    go_ret
    exact ⟨by first | rfl | (simp; done) | (simp [*]; done), by repeat (first | exact Drawn0.refl _ | apply Drawn0.step)⟩
  · rw [if_neg c3] at H
    have c3b0 : (a1 == 0) = false := beq_eq_false_iff_ne.mpr c3
    have c3b1 : (a1 != 0) = true := bne_iff_ne.mpr c3
    obtain ⟨ji4, hji4⟩ : ∃ j_ : Int, (wrap64 (a1 - 1)) = j_ := ⟨_, rfl⟩
    replace H : (if 0 ≤ (ji4) then (if (ji4) < (l0.length : Int) then (some ((rd_T40 l0 (ji4)).f1)) else (none)) else (none)) = some r := by first | (rw [hji4] at H; exact H) | (simp only [hji4] at H ⊢; exact H)
    have hji4w : (IntKind.i64.wrap (a1 - 1)) = ji4 := (i64_w _).trans hji4
    by_cases c5 : 0 ≤ (ji4)
    · rw [if_pos c5] at H
      have c5b0 : decide (0 ≤ (ji4)) = true := decide_eq_true c5
      clear c5
      by_cases c6 : (ji4) < (l0.length : Int)
      · rw [if_pos c6] at H
        have c6b0 : decide ((ji4) < (l0.length : Int)) = true := decide_eq_true c6
        clear c6
        obtain rfl := Option.some.inj H
        have p247 : 0 ≤ ((ji4) : Int) := of_decide_eq_true (by first | (with_reducible assumption) | assumption)
        have q247 : (ji4) < (l0.length : Int) := of_decide_eq_true (by first | (with_reducible assumption) | assumption)
        obtain ⟨ad247, e247, hx247_0, hx247_1⟩ := at_T40 HR0.out (ji4) p247 q247
        cases e247
        replace p247 := eq_true p247
        replace q247 := eq_true q247
        go_enter Try.func60, Try.ntmps60
        go_wp2
        go_ret
        exact ⟨by first | rfl | (simp; done) | (simp only [← hji4] <;> (first | rfl | simp)) | (simp [*]; done), by repeat (first | exact Drawn0.refl _ | apply Drawn0.step)⟩
      · rw [if_neg c6] at H
        exact absurd H (by simp)
    · rw [if_neg c5] at H
      exact absurd H (by simp)

/-! ### epactref01_Sub: function 61 -/
def epactref01_Sub.f (a0 : Int) (a1 : Int) : Option (Int × Bool) := if a1 < 0 then (if a0 > (wrap64 (9223372036854775807 + a1)) then (some (0, false)) else (if a1 > 0 then (if a0 < (wrap64 ((-9223372036854775808) + a1)) then (some (0, false)) else (some (wrap64 (a0 - a1), true))) else (some (wrap64 (a0 - a1), true)))) else (if a1 > 0 then (if a0 < (wrap64 ((-9223372036854775808) + a1)) then (some (0, false)) else (some (wrap64 (a0 - a1), true))) else (some (wrap64 (a0 - a1), true)))
set_option maxHeartbeats 8000000 in
set_option maxRecDepth 100000 in
theorem epactref01_Sub.calls (a0 : Int) (a1 : Int) (r1 : Int) (r2 : Bool) (w : World) (h : epactref01_Sub.f a0 a1 = some (r1, r2)) :
    Calls Try.prog 61 #[.int .i64 a0, .int .i64 a1] w fun e w' => e = .returned (.tuple #[.int .i64 r1, .bool r2]) ∧ Drawn0 w w' := by
  have H : (if a1 < 0 then (if a0 > (wrap64 (9223372036854775807 + a1)) then (some (0, false)) else (if a1 > 0 then (if a0 < (wrap64 ((-9223372036854775808) + a1)) then (some (0, false)) else (some (wrap64 (a0 - a1), true))) else (some (wrap64 (a0 - a1), true)))) else (if a1 > 0 then (if a0 < (wrap64 ((-9223372036854775808) + a1)) then (some (0, false)) else (some (wrap64 (a0 - a1), true))) else (some (wrap64 (a0 - a1), true)))) = some (r1, r2) := h
  clear h
  by_cases c3 : a1 < 0
  · rw [if_pos c3] at H
    have c3b0 : decide (a1 < 0) = true := decide_eq_true c3
    clear c3
    by_cases c4 : a0 > (wrap64 (9223372036854775807 + a1))
    · rw [if_pos c4] at H
      have c4b0 : decide ((wrap64 (9223372036854775807 + a1)) < a0) = true := decide_eq_true c4
      clear c4
      simp only [Option.some.injEq, Prod.mk.injEq] at H
      obtain ⟨rfl, rfl⟩ := H
      go_enter Try.func61, Try.ntmps61
      go_wp2
      go_ret2
      exact ⟨by first | rfl | (simp; done) | (simp [*]; done), by repeat (first | exact Drawn0.refl _ | apply Drawn0.step)⟩
    · rw [if_neg c4] at H
      have c4b0 : decide ((wrap64 (9223372036854775807 + a1)) < a0) = false := decide_eq_false c4
      clear c4
      by_cases c5 : a1 > 0
      · rw [if_pos c5] at H
        have c5b0 : decide (0 < a1) = true := decide_eq_true c5
        clear c5
        by_cases c6 : a0 < (wrap64 ((-9223372036854775808) + a1))
        · rw [if_pos c6] at H
          have c6b0 : decide (a0 < (wrap64 ((-9223372036854775808) + a1))) = true := decide_eq_true c6
          clear c6
          simp only [Option.some.injEq, Prod.mk.injEq] at H
          obtain ⟨rfl, rfl⟩ := H
          go_enter Try.func61, Try.ntmps61
          go_wp2
          go_ret2
          exact ⟨by first | rfl | (simp; done) | (simp [*]; done), by repeat (first | exact Drawn0.refl _ | apply Drawn0.step)⟩
        · rw [if_neg c6] at H
          have c6b0 : decide (a0 < (wrap64 ((-9223372036854775808) + a1))) = false := decide_eq_false c6
          clear c6
          simp only [Option.some.injEq, Prod.mk.injEq] at H
          obtain ⟨rfl, rfl⟩ := H
          go_enter Try.func61, Try.ntmps61
          go_wp2
          go_ret2
          exact ⟨by first | rfl | (simp; done) | (simp [*]; done), by repeat (first | exact Drawn0.refl _ | apply Drawn0.step)⟩
      · rw [if_neg c5] at H
        have c5b0 : decide (0 < a1) = false := decide_eq_false c5
        clear c5
        simp only [Option.some.injEq, Prod.mk.injEq] at H
        obtain ⟨rfl, rfl⟩ := H
        go_enter Try.func61, Try.ntmps61
        go_wp2
        go_ret2
        exact ⟨by first | rfl | (simp; done) | (simp [*]; done), by repeat (first | exact Drawn0.refl _ | apply Drawn0.step)⟩
  · rw [if_neg c3] at H
    have c3b0 : decide (a1 < 0) = false := decide_eq_false c3
    clear c3
    by_cases c7 : a1 > 0
    · rw [if_pos c7] at H
      have c7b0 : decide (0 < a1) = true := decide_eq_true c7
      clear c7
      by_cases c8 : a0 < (wrap64 ((-9223372036854775808) + a1))
      · rw [if_pos c8] at H
        have c8b0 : decide (a0 < (wrap64 ((-9223372036854775808) + a1))) = true := decide_eq_true c8
        clear c8
        simp only [Option.some.injEq, Prod.mk.injEq] at H
        obtain ⟨rfl, rfl⟩ := H
        go_enter Try.func61, Try.ntmps61
        go_wp2
        go_ret2
        exact ⟨by first | rfl | (simp; done) | (simp [*]; done), by repeat (first | exact Drawn0.refl _ | apply Drawn0.step)⟩
      · rw [if_neg c8] at H
        have c8b0 : decide (a0 < (wrap64 ((-9223372036854775808) + a1))) = false := decide_eq_false c8
        clear c8
        simp only [Option.some.injEq, Prod.mk.injEq] at H
        obtain ⟨rfl, rfl⟩ := H
        go_enter Try.func61, Try.ntmps61
        go_wp2
        go_ret2
        exact ⟨by first | rfl | (simp; done) | (simp [*]; done), by repeat (first | exact Drawn0.refl _ | apply Drawn0.step)⟩
    · rw [if_neg c7] at H
      have c7b0 : decide (0 < a1) = false := decide_eq_false c7
      clear c7
      simp only [Option.some.injEq, Prod.mk.injEq] at H
      obtain ⟨rfl, rfl⟩ := H
      go_enter Try.func61, Try.ntmps61
      go_wp2
      go_ret2
      exact ⟨by first | rfl | (simp; done) | (simp [*]; done), by repeat (first | exact Drawn0.refl _ | apply Drawn0.step)⟩

end Go.Proofs.Ytlfnkamhokfeaaa.PAll
