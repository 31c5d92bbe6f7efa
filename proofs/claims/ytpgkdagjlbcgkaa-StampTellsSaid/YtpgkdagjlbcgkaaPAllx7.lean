-- Written for this claim by wip/tools of this repo (after the kit's print; own contracts laid in).
import Derived.Test.YtpgkdagjlbcgkaaPAllx0
import Derived.Test.YtpgkdagjlbcgkaaPAllx1
import Derived.Test.YtpgkdagjlbcgkaaPAllx2
import Derived.Test.YtpgkdagjlbcgkaaPAllx3
import Derived.Test.YtpgkdagjlbcgkaaPAllx4
import Derived.Test.YtpgkdagjlbcgkaaPAllx6
namespace Go.Proofs.Ytpgkdagjlbcgkaa.PAll
open Go.RowKit Go.Proofs.YtpgkdagjlbcgkaaW.PrintWords Go.Proofs.YtpgkdagjlbcgkaaW.PrintLast Go.Proofs.YtpgkdagjlbcgkaaW.PrintMore
attribute [local go_sem] max2_int min2_int max_two min_two max_three min_three max_four min_four   -- for this text's walks alone
set_option linter.unusedVariables false
set_option linter.unusedSimpArgs false

/-! ### epactlaw04_StampTells: function 3 -/
def epactlaw04_StampTells.f (k : Nat) (a0 : Int) (a1 : Int) (a2 : Int) (a3 : Int) (a4 : Int) (a5 : ByteArray) : Option (Bool) := (epactlaw04_small.f k).bind fun t201 => (if (a5.size : Int) > 200 then (some t201) else ((stamp_Clock.f k a1).bind fun bt202 => ((epactref04_Clock.f k a1).bind fun bt206 => ((stamp_Second.f k a2 a3 a4).bind fun bt210 => ((epactref04_Second.f a2 a3 a4).bind fun bt212 => ((stamp_Text.f k a0 a1).bind fun bt214 => ((epactref04_Text.f k a0 a1).bind fun bt216 => ((stamp_Parse.f k a5).bind fun bt218 => ((epactref04_Parse.f k a5).bind fun bt221 => ((stamp_Day.f k a0).bind fun bt224 => ((epactref04_Day.f k a0).bind fun bt226 => (if t201 = true then (if bt202.1 = bt206.1 then (if bt202.2.1 = bt206.2.1 then (if bt202.2.2.1 = bt206.2.2.1 then (if (bt202.2.2.2 == bt206.2.2.2) = true then (if bt210.1 = bt212.1 then (if (bt210.2 == bt212.2) = true then (if bt214.1.toList = bt216.1.toList then (if (bt214.2 == bt216.2) = true then (if bt218.1 = bt221.1 then (if bt218.2.1 = bt221.2.1 then (if (bt218.2.2 == bt221.2.2) = true then (if bt224.1.toList = bt226.1.toList then (some (bt224.2 == bt226.2)) else (none)) else (none)) else (none)) else (none)) else (none)) else (none)) else (none)) else (none)) else (none)) else (none)) else (none)) else (none)) else (none)))))))))))))
theorem epactlaw04_StampTells.mono : ∀ a0 a1 a2 a3 a4 a5 k, LeO (epactlaw04_StampTells.f k a0 a1 a2 a3 a4 a5) (epactlaw04_StampTells.f (k + 1) a0 a1 a2 a3 a4 a5) := by
  intro a0 a1 a2 a3 a4 a5 k
  unfold epactlaw04_StampTells.f
  repeat' first
      | (with_reducible exact epactlaw04_small.mono _)
      | (with_reducible exact epactref04_Clock.mono _ _)
      | (with_reducible exact epactref04_Day.mono _ _)
      | (with_reducible exact epactref04_Parse.mono _ _)
      | (with_reducible exact epactref04_Text.mono _ _ _)
      | (with_reducible exact stamp_Clock.mono _ _)
      | (with_reducible exact stamp_Day.mono _ _)
      | (with_reducible exact stamp_Parse.mono _ _)
      | (with_reducible exact stamp_Second.mono _ _ _ _)
      | (with_reducible exact stamp_Text.mono _ _ _)
      | (with_reducible exact LeO.refl _)
      | (with_reducible exact LeO.none _)
      | (with_reducible refine LeO.ite ?_ ?_)
      | (with_reducible refine LeO.bind ?_ (fun _ => ?_))
      | exact epactlaw04_small.mono _
      | exact epactref04_Clock.mono _ _
      | exact epactref04_Day.mono _ _
      | exact epactref04_Parse.mono _ _
      | exact epactref04_Text.mono _ _ _
      | exact stamp_Clock.mono _ _
      | exact stamp_Day.mono _ _
      | exact stamp_Parse.mono _ _
      | exact stamp_Second.mono _ _ _ _
      | exact stamp_Text.mono _ _ _
      | exact LeO.none _
      | refine LeO.ite ?_ ?_
      | refine LeO.bind ?_ (fun _ => ?_)
set_option maxHeartbeats 8000000 in
set_option maxRecDepth 100000 in
theorem epactlaw04_StampTells.calls (k : Nat) (a0 : Int) (a1 : Int) (a2 : Int) (a3 : Int) (a4 : Int) (a5 : ByteArray) (r : Bool) (w : World) (h : epactlaw04_StampTells.f k a0 a1 a2 a3 a4 a5 = some r) :
    Calls Try.prog 3 #[.int .i64 a0, .int .i64 a1, .int .i64 a2, .int .i64 a3, .int .i64 a4, .string a5] w fun e w' => e = .returned (.bool r) ∧ Below w.heap.size w w' := by
  have HB := Aside0.mk (Below.refl w.heap.size w)
  have H : ((epactlaw04_small.f k).bind fun t201 => (if (a5.size : Int) > 200 then (some t201) else ((stamp_Clock.f k a1).bind fun bt202 => ((epactref04_Clock.f k a1).bind fun bt206 => ((stamp_Second.f k a2 a3 a4).bind fun bt210 => ((epactref04_Second.f a2 a3 a4).bind fun bt212 => ((stamp_Text.f k a0 a1).bind fun bt214 => ((epactref04_Text.f k a0 a1).bind fun bt216 => ((stamp_Parse.f k a5).bind fun bt218 => ((epactref04_Parse.f k a5).bind fun bt221 => ((stamp_Day.f k a0).bind fun bt224 => ((epactref04_Day.f k a0).bind fun bt226 => (if t201 = true then (if bt202.1 = bt206.1 then (if bt202.2.1 = bt206.2.1 then (if bt202.2.2.1 = bt206.2.2.1 then (if (bt202.2.2.2 == bt206.2.2.2) = true then (if bt210.1 = bt212.1 then (if (bt210.2 == bt212.2) = true then (if bt214.1.toList = bt216.1.toList then (if (bt214.2 == bt216.2) = true then (if bt218.1 = bt221.1 then (if bt218.2.1 = bt221.2.1 then (if (bt218.2.2 == bt221.2.2) = true then (if bt224.1.toList = bt226.1.toList then (some (bt224.2 == bt226.2)) else (none)) else (none)) else (none)) else (none)) else (none)) else (none)) else (none)) else (none)) else (none)) else (none)) else (none)) else (none)) else (none)))))))))))))) = some r := h
  clear h
  replace H := Option.bind_eq_some_iff.mp H
  obtain ⟨t201, A70, H⟩ := H
  replace H : (if (a5.size : Int) > 200 then (some t201) else ((stamp_Clock.f k a1).bind fun bt202 => ((epactref04_Clock.f k a1).bind fun bt206 => ((stamp_Second.f k a2 a3 a4).bind fun bt210 => ((epactref04_Second.f a2 a3 a4).bind fun bt212 => ((stamp_Text.f k a0 a1).bind fun bt214 => ((epactref04_Text.f k a0 a1).bind fun bt216 => ((stamp_Parse.f k a5).bind fun bt218 => ((epactref04_Parse.f k a5).bind fun bt221 => ((stamp_Day.f k a0).bind fun bt224 => ((epactref04_Day.f k a0).bind fun bt226 => (if t201 = true then (if bt202.1 = bt206.1 then (if bt202.2.1 = bt206.2.1 then (if bt202.2.2.1 = bt206.2.2.1 then (if (bt202.2.2.2 == bt206.2.2.2) = true then (if bt210.1 = bt212.1 then (if (bt210.2 == bt212.2) = true then (if bt214.1.toList = bt216.1.toList then (if (bt214.2 == bt216.2) = true then (if bt218.1 = bt221.1 then (if bt218.2.1 = bt221.2.1 then (if (bt218.2.2 == bt221.2.2) = true then (if bt224.1.toList = bt226.1.toList then (some (bt224.2 == bt226.2)) else (none)) else (none)) else (none)) else (none)) else (none)) else (none)) else (none)) else (none)) else (none)) else (none)) else (none)) else (none)) else (none))))))))))))) = some r := H
  have A7 := Aside0.mk A70
  clear A70
  by_cases c8 : (a5.size : Int) > 200
  · rw [if_pos c8] at H
    have c8b0 : decide (200 < (a5.size : Int)) = true := decide_eq_true c8
    have c8b1 : decide (200 < a5.size) = true := decide_eq_true (by omega)
    clear c8
    obtain rfl := Option.some.inj H
    go_enter Try.func3, Try.ntmps3
    go_wp2_with (first | ((with_reducible refine gate_callee (f := 8) rfl ?_); refine goesL_ (some 40) rfl rfl Try.func8 (by kernel_rfl) rfl #[] rfl (by (try simp only [List.map_toArray, List.map_cons, List.map_nil]); first | done | rfl | (simp only [List.length_drop, List.length_take]; rfl)) ?_; (with_reducible refine (epactlaw04_small.calls k  t201 _ A7.out).mono ?_); rintro e w9 ⟨rfl, hb⟩; refine ⟨_, rfl, ?_⟩; have n0_ := Aside0.mk (below_step (by repeat (first | (with_reducible first | exact HB.out | apply below_alloc | apply pw_below_drewN | apply below_drew1) | exact HB.out)) hb); clear HB; have HB := n0_; clear n0_; (try clear hb); (try clear hb2); (try clear hk); (try clear hi)))
    go_ret
    exact ⟨by first | rfl | (simp [errW_none, errW_some] <;> rfl) | (simp [*, errW_none, errW_some] <;> rfl), by repeat (first | (with_reducible first | exact HB.out | apply below_alloc | apply pw_below_drewN | apply below_drew1) | exact HB.out)⟩
  · rw [if_neg c8] at H
    have c8b0 : decide (200 < (a5.size : Int)) = false := decide_eq_false c8
    have c8b1 : decide (200 < a5.size) = false := decide_eq_false (by omega)
    clear c8
    replace H := Option.bind_eq_some_iff.mp H
    obtain ⟨⟨t202, t203, t204, t205⟩, A100, H⟩ := H
    replace H : ((epactref04_Clock.f k a1).bind fun bt206 => ((stamp_Second.f k a2 a3 a4).bind fun bt210 => ((epactref04_Second.f a2 a3 a4).bind fun bt212 => ((stamp_Text.f k a0 a1).bind fun bt214 => ((epactref04_Text.f k a0 a1).bind fun bt216 => ((stamp_Parse.f k a5).bind fun bt218 => ((epactref04_Parse.f k a5).bind fun bt221 => ((stamp_Day.f k a0).bind fun bt224 => ((epactref04_Day.f k a0).bind fun bt226 => (if t201 = true then (if t202 = bt206.1 then (if t203 = bt206.2.1 then (if t204 = bt206.2.2.1 then (if (t205 == bt206.2.2.2) = true then (if bt210.1 = bt212.1 then (if (bt210.2 == bt212.2) = true then (if bt214.1.toList = bt216.1.toList then (if (bt214.2 == bt216.2) = true then (if bt218.1 = bt221.1 then (if bt218.2.1 = bt221.2.1 then (if (bt218.2.2 == bt221.2.2) = true then (if bt224.1.toList = bt226.1.toList then (some (bt224.2 == bt226.2)) else (none)) else (none)) else (none)) else (none)) else (none)) else (none)) else (none)) else (none)) else (none)) else (none)) else (none)) else (none)) else (none))))))))))) = some r := H
    have A10 := Aside0.mk A100
    clear A100
    replace H := Option.bind_eq_some_iff.mp H
    obtain ⟨⟨t206, t207, t208, t209⟩, A110, H⟩ := H
    replace H : ((stamp_Second.f k a2 a3 a4).bind fun bt210 => ((epactref04_Second.f a2 a3 a4).bind fun bt212 => ((stamp_Text.f k a0 a1).bind fun bt214 => ((epactref04_Text.f k a0 a1).bind fun bt216 => ((stamp_Parse.f k a5).bind fun bt218 => ((epactref04_Parse.f k a5).bind fun bt221 => ((stamp_Day.f k a0).bind fun bt224 => ((epactref04_Day.f k a0).bind fun bt226 => (if t201 = true then (if t202 = t206 then (if t203 = t207 then (if t204 = t208 then (if (t205 == t209) = true then (if bt210.1 = bt212.1 then (if (bt210.2 == bt212.2) = true then (if bt214.1.toList = bt216.1.toList then (if (bt214.2 == bt216.2) = true then (if bt218.1 = bt221.1 then (if bt218.2.1 = bt221.2.1 then (if (bt218.2.2 == bt221.2.2) = true then (if bt224.1.toList = bt226.1.toList then (some (bt224.2 == bt226.2)) else (none)) else (none)) else (none)) else (none)) else (none)) else (none)) else (none)) else (none)) else (none)) else (none)) else (none)) else (none)) else (none)))))))))) = some r := H
    have A11 := Aside0.mk A110
    clear A110
    replace H := Option.bind_eq_some_iff.mp H
    obtain ⟨⟨t210, t211⟩, A120, H⟩ := H
    replace H : ((epactref04_Second.f a2 a3 a4).bind fun bt212 => ((stamp_Text.f k a0 a1).bind fun bt214 => ((epactref04_Text.f k a0 a1).bind fun bt216 => ((stamp_Parse.f k a5).bind fun bt218 => ((epactref04_Parse.f k a5).bind fun bt221 => ((stamp_Day.f k a0).bind fun bt224 => ((epactref04_Day.f k a0).bind fun bt226 => (if t201 = true then (if t202 = t206 then (if t203 = t207 then (if t204 = t208 then (if (t205 == t209) = true then (if t210 = bt212.1 then (if (t211 == bt212.2) = true then (if bt214.1.toList = bt216.1.toList then (if (bt214.2 == bt216.2) = true then (if bt218.1 = bt221.1 then (if bt218.2.1 = bt221.2.1 then (if (bt218.2.2 == bt221.2.2) = true then (if bt224.1.toList = bt226.1.toList then (some (bt224.2 == bt226.2)) else (none)) else (none)) else (none)) else (none)) else (none)) else (none)) else (none)) else (none)) else (none)) else (none)) else (none)) else (none)) else (none))))))))) = some r := H
    have A12 := Aside0.mk A120
    clear A120
    replace H := Option.bind_eq_some_iff.mp H
    obtain ⟨⟨t212, t213⟩, A130, H⟩ := H
    replace H : ((stamp_Text.f k a0 a1).bind fun bt214 => ((epactref04_Text.f k a0 a1).bind fun bt216 => ((stamp_Parse.f k a5).bind fun bt218 => ((epactref04_Parse.f k a5).bind fun bt221 => ((stamp_Day.f k a0).bind fun bt224 => ((epactref04_Day.f k a0).bind fun bt226 => (if t201 = true then (if t202 = t206 then (if t203 = t207 then (if t204 = t208 then (if (t205 == t209) = true then (if t210 = t212 then (if (t211 == t213) = true then (if bt214.1.toList = bt216.1.toList then (if (bt214.2 == bt216.2) = true then (if bt218.1 = bt221.1 then (if bt218.2.1 = bt221.2.1 then (if (bt218.2.2 == bt221.2.2) = true then (if bt224.1.toList = bt226.1.toList then (some (bt224.2 == bt226.2)) else (none)) else (none)) else (none)) else (none)) else (none)) else (none)) else (none)) else (none)) else (none)) else (none)) else (none)) else (none)) else (none)))))))) = some r := H
    have A13 := Aside0.mk A130
    clear A130
    replace H := Option.bind_eq_some_iff.mp H
    obtain ⟨⟨t214, t215⟩, A140, H⟩ := H
    replace H : ((epactref04_Text.f k a0 a1).bind fun bt216 => ((stamp_Parse.f k a5).bind fun bt218 => ((epactref04_Parse.f k a5).bind fun bt221 => ((stamp_Day.f k a0).bind fun bt224 => ((epactref04_Day.f k a0).bind fun bt226 => (if t201 = true then (if t202 = t206 then (if t203 = t207 then (if t204 = t208 then (if (t205 == t209) = true then (if t210 = t212 then (if (t211 == t213) = true then (if t214.toList = bt216.1.toList then (if (t215 == bt216.2) = true then (if bt218.1 = bt221.1 then (if bt218.2.1 = bt221.2.1 then (if (bt218.2.2 == bt221.2.2) = true then (if bt224.1.toList = bt226.1.toList then (some (bt224.2 == bt226.2)) else (none)) else (none)) else (none)) else (none)) else (none)) else (none)) else (none)) else (none)) else (none)) else (none)) else (none)) else (none)) else (none))))))) = some r := H
    have A14 := Aside0.mk A140
    clear A140
    replace H := Option.bind_eq_some_iff.mp H
    obtain ⟨⟨t216, t217⟩, A150, H⟩ := H
    replace H : ((stamp_Parse.f k a5).bind fun bt218 => ((epactref04_Parse.f k a5).bind fun bt221 => ((stamp_Day.f k a0).bind fun bt224 => ((epactref04_Day.f k a0).bind fun bt226 => (if t201 = true then (if t202 = t206 then (if t203 = t207 then (if t204 = t208 then (if (t205 == t209) = true then (if t210 = t212 then (if (t211 == t213) = true then (if t214.toList = t216.toList then (if (t215 == t217) = true then (if bt218.1 = bt221.1 then (if bt218.2.1 = bt221.2.1 then (if (bt218.2.2 == bt221.2.2) = true then (if bt224.1.toList = bt226.1.toList then (some (bt224.2 == bt226.2)) else (none)) else (none)) else (none)) else (none)) else (none)) else (none)) else (none)) else (none)) else (none)) else (none)) else (none)) else (none)) else (none)))))) = some r := H
    have A15 := Aside0.mk A150
    clear A150
    replace H := Option.bind_eq_some_iff.mp H
    obtain ⟨⟨t218, t219, t220⟩, A160, H⟩ := H
    replace H : ((epactref04_Parse.f k a5).bind fun bt221 => ((stamp_Day.f k a0).bind fun bt224 => ((epactref04_Day.f k a0).bind fun bt226 => (if t201 = true then (if t202 = t206 then (if t203 = t207 then (if t204 = t208 then (if (t205 == t209) = true then (if t210 = t212 then (if (t211 == t213) = true then (if t214.toList = t216.toList then (if (t215 == t217) = true then (if t218 = bt221.1 then (if t219 = bt221.2.1 then (if (t220 == bt221.2.2) = true then (if bt224.1.toList = bt226.1.toList then (some (bt224.2 == bt226.2)) else (none)) else (none)) else (none)) else (none)) else (none)) else (none)) else (none)) else (none)) else (none)) else (none)) else (none)) else (none)) else (none))))) = some r := H
    have A16 := Aside0.mk A160
    clear A160
    replace H := Option.bind_eq_some_iff.mp H
    obtain ⟨⟨t221, t222, t223⟩, A170, H⟩ := H
    replace H : ((stamp_Day.f k a0).bind fun bt224 => ((epactref04_Day.f k a0).bind fun bt226 => (if t201 = true then (if t202 = t206 then (if t203 = t207 then (if t204 = t208 then (if (t205 == t209) = true then (if t210 = t212 then (if (t211 == t213) = true then (if t214.toList = t216.toList then (if (t215 == t217) = true then (if t218 = t221 then (if t219 = t222 then (if (t220 == t223) = true then (if bt224.1.toList = bt226.1.toList then (some (bt224.2 == bt226.2)) else (none)) else (none)) else (none)) else (none)) else (none)) else (none)) else (none)) else (none)) else (none)) else (none)) else (none)) else (none)) else (none)))) = some r := H
    have A17 := Aside0.mk A170
    clear A170
    replace H := Option.bind_eq_some_iff.mp H
    obtain ⟨⟨t224, t225⟩, A180, H⟩ := H
    replace H : ((epactref04_Day.f k a0).bind fun bt226 => (if t201 = true then (if t202 = t206 then (if t203 = t207 then (if t204 = t208 then (if (t205 == t209) = true then (if t210 = t212 then (if (t211 == t213) = true then (if t214.toList = t216.toList then (if (t215 == t217) = true then (if t218 = t221 then (if t219 = t222 then (if (t220 == t223) = true then (if t224.toList = bt226.1.toList then (some (t225 == bt226.2)) else (none)) else (none)) else (none)) else (none)) else (none)) else (none)) else (none)) else (none)) else (none)) else (none)) else (none)) else (none)) else (none))) = some r := H
    have A18 := Aside0.mk A180
    clear A180
    replace H := Option.bind_eq_some_iff.mp H
    obtain ⟨⟨t226, t227⟩, A190, H⟩ := H
    replace H : (if t201 = true then (if t202 = t206 then (if t203 = t207 then (if t204 = t208 then (if (t205 == t209) = true then (if t210 = t212 then (if (t211 == t213) = true then (if t214.toList = t216.toList then (if (t215 == t217) = true then (if t218 = t221 then (if t219 = t222 then (if (t220 == t223) = true then (if t224.toList = t226.toList then (some (t225 == t227)) else (none)) else (none)) else (none)) else (none)) else (none)) else (none)) else (none)) else (none)) else (none)) else (none)) else (none)) else (none)) else (none)) = some r := H
    have A19 := Aside0.mk A190
    clear A190
    by_cases c20 : t201 = true
    · subst c20
      have H1 : (if t202 = t206 then (if t203 = t207 then (if t204 = t208 then (if (t205 == t209) = true then (if t210 = t212 then (if (t211 == t213) = true then (if t214.toList = t216.toList then (if (t215 == t217) = true then (if t218 = t221 then (if t219 = t222 then (if (t220 == t223) = true then (if t224.toList = t226.toList then (some (t225 == t227)) else (none)) else (none)) else (none)) else (none)) else (none)) else (none)) else (none)) else (none)) else (none)) else (none)) else (none)) else (none)) = some r := by rw [if_pos rfl] at H; exact H
      clear H
      have H := H1
      clear H1
      by_cases c21 : t202 = t206
      · rw [if_pos c21] at H
        have c21b0 : (t202 == t206) = true := beq_iff_eq.mpr c21
        have c21b1 : (t202 != t206) = false := bne_eq_false_iff_eq.mpr c21
        clear c21
        by_cases c22 : t203 = t207
        · rw [if_pos c22] at H
          have c22b0 : (t203 == t207) = true := beq_iff_eq.mpr c22
          have c22b1 : (t203 != t207) = false := bne_eq_false_iff_eq.mpr c22
          clear c22
          by_cases c23 : t204 = t208
          · rw [if_pos c23] at H
            have c23b0 : (t204 == t208) = true := beq_iff_eq.mpr c23
            have c23b1 : (t204 != t208) = false := bne_eq_false_iff_eq.mpr c23
            clear c23
            by_cases c24 : (t205 == t209) = true
            · rw [if_pos c24] at H
              have c24b0 : (t205 == t209) = true := c24
              (try (have c24b1 : decide (t205 = t209) = true := by first | (simp; done) | (simp at c24; done) | simpa using c24))
              (try (have c24b2 : (t205 == t209) = true := by first | (simp; done) | (simp at c24; done) | simpa using c24))
              clear c24
              by_cases c25 : t210 = t212
              · rw [if_pos c25] at H
                have c25b0 : (t210 == t212) = true := beq_iff_eq.mpr c25
                have c25b1 : (t210 != t212) = false := bne_eq_false_iff_eq.mpr c25
                clear c25
                by_cases c26 : (t211 == t213) = true
                · rw [if_pos c26] at H
                  have c26b0 : (t211 == t213) = true := c26
                  (try (have c26b1 : decide (t211 = t213) = true := by first | (simp; done) | (simp at c26; done) | simpa using c26))
                  (try (have c26b2 : (t211 == t213) = true := by first | (simp; done) | (simp at c26; done) | simpa using c26))
                  clear c26
                  by_cases c27 : t214.toList = t216.toList
                  · rw [if_pos c27] at H
                    have c27b0 : (t214.toList == t216.toList) = true := beq_iff_eq.mpr c27
                    have c27b1 : (t214.toList != t216.toList) = false := bne_eq_false_iff_eq.mpr c27
                    clear c27
                    by_cases c28 : (t215 == t217) = true
                    · rw [if_pos c28] at H
                      have c28b0 : (t215 == t217) = true := c28
                      (try (have c28b1 : decide (t215 = t217) = true := by first | (simp; done) | (simp at c28; done) | simpa using c28))
                      (try (have c28b2 : (t215 == t217) = true := by first | (simp; done) | (simp at c28; done) | simpa using c28))
                      clear c28
                      by_cases c29 : t218 = t221
                      · rw [if_pos c29] at H
                        have c29b0 : (t218 == t221) = true := beq_iff_eq.mpr c29
                        have c29b1 : (t218 != t221) = false := bne_eq_false_iff_eq.mpr c29
                        clear c29
                        by_cases c30 : t219 = t222
                        · rw [if_pos c30] at H
                          have c30b0 : (t219 == t222) = true := beq_iff_eq.mpr c30
                          have c30b1 : (t219 != t222) = false := bne_eq_false_iff_eq.mpr c30
                          clear c30
                          by_cases c31 : (t220 == t223) = true
                          · rw [if_pos c31] at H
                            have c31b0 : (t220 == t223) = true := c31
                            (try (have c31b1 : decide (t220 = t223) = true := by first | (simp; done) | (simp at c31; done) | simpa using c31))
                            (try (have c31b2 : (t220 == t223) = true := by first | (simp; done) | (simp at c31; done) | simpa using c31))
                            clear c31
                            by_cases c32 : t224.toList = t226.toList
                            · rw [if_pos c32] at H
                              have c32b0 : (t224.toList == t226.toList) = true := beq_iff_eq.mpr c32
                              have c32b1 : (t224.toList != t226.toList) = false := bne_eq_false_iff_eq.mpr c32
                              clear c32
                              obtain rfl := Option.some.inj H
                              go_enter Try.func3, Try.ntmps3
                              go_wp2_with (first | ((with_reducible refine gate_callee (f := 8) rfl ?_); refine goesL_ (some 40) rfl rfl Try.func8 (by kernel_rfl) rfl #[] rfl (by (try simp only [List.map_toArray, List.map_cons, List.map_nil]); first | done | rfl | (simp only [List.length_drop, List.length_take]; rfl)) ?_; (with_reducible refine (epactlaw04_small.calls k  true _ A7.out).mono ?_); rintro e w33 ⟨rfl, hb⟩; refine ⟨_, rfl, ?_⟩; have n0_ := Aside0.mk (below_step (by repeat (first | (with_reducible first | exact HB.out | apply below_alloc | apply pw_below_drewN | apply below_drew1) | exact HB.out)) hb); clear HB; have HB := n0_; clear n0_; (try clear hb); (try clear hb2); (try clear hk); (try clear hi)) | ((with_reducible refine gate_callee (f := 9) rfl ?_); refine goesL_ (some 47) rfl rfl Try.func9 (by kernel_rfl) rfl #[.int .i64 a1] rfl (by (try simp only [List.map_toArray, List.map_cons, List.map_nil]); first | done | rfl | (simp only [List.length_drop, List.length_take]; rfl)) ?_; (with_reducible refine (stamp_Clock.calls k a1 t202 t203 t204 t205 _ A10.out).mono ?_); rintro e w' ⟨rfl, ⟨nd, rfl⟩⟩; refine ⟨_, rfl, ?_⟩) | ((with_reducible refine gate_callee (f := 10) rfl ?_); refine goesL_ (some 54) rfl rfl Try.func10 (by kernel_rfl) rfl #[.int .i64 a1] rfl (by (try simp only [List.map_toArray, List.map_cons, List.map_nil]); first | done | rfl | (simp only [List.length_drop, List.length_take]; rfl)) ?_; (with_reducible refine (epactref04_Clock.calls k a1 t206 t207 t208 t209 _ A11.out).mono ?_); rintro e w' ⟨rfl, ⟨nd, rfl⟩⟩; refine ⟨_, rfl, ?_⟩) | ((with_reducible refine gate_callee (f := 11) rfl ?_); refine goesL_ (some 63) rfl rfl Try.func11 (by kernel_rfl) rfl #[.int .i64 a2, .int .i64 a3, .int .i64 a4] rfl (by (try simp only [List.map_toArray, List.map_cons, List.map_nil]); first | done | rfl | (simp only [List.length_drop, List.length_take]; rfl)) ?_; (with_reducible refine (stamp_Second.calls k a2 a3 a4 t210 t211 _ A12.out).mono ?_); rintro e w34 ⟨rfl, hb⟩; refine ⟨_, rfl, ?_⟩; have n0_ := Aside0.mk (below_step (by repeat (first | (with_reducible first | exact HB.out | apply below_alloc | apply pw_below_drewN | apply below_drew1) | exact HB.out)) hb); clear HB; have HB := n0_; clear n0_; (try clear hb); (try clear hb2); (try clear hk); (try clear hi)) | ((with_reducible refine gate_callee (f := 12) rfl ?_); refine goesL_ (some 70) rfl rfl Try.func12 (by kernel_rfl) rfl #[.int .i64 a2, .int .i64 a3, .int .i64 a4] rfl (by (try simp only [List.map_toArray, List.map_cons, List.map_nil]); first | done | rfl | (simp only [List.length_drop, List.length_take]; rfl)) ?_; (with_reducible refine (epactref04_Second.calls a2 a3 a4 t212 t213 _ A13.out).mono ?_); rintro e w' ⟨rfl, ⟨nd, rfl⟩⟩; refine ⟨_, rfl, ?_⟩) | ((with_reducible refine gate_callee (f := 13) rfl ?_); refine goesL_ (some 76) rfl rfl Try.func13 (by kernel_rfl) rfl #[.int .i64 a0, .int .i64 a1] rfl (by (try simp only [List.map_toArray, List.map_cons, List.map_nil]); first | done | rfl | (simp only [List.length_drop, List.length_take]; rfl)) ?_; (with_reducible refine (stamp_Text.calls k a0 a1 t214 t215 _ A14.out).mono ?_); rintro e w35 ⟨rfl, hb⟩; refine ⟨_, rfl, ?_⟩; have n0_ := Aside0.mk (below_step (by repeat (first | (with_reducible first | exact HB.out | apply below_alloc | apply pw_below_drewN | apply below_drew1) | exact HB.out)) hb); clear HB; have HB := n0_; clear n0_; (try clear hb); (try clear hb2); (try clear hk); (try clear hi)) | ((with_reducible refine gate_callee (f := 14) rfl ?_); refine goesL_ (some 82) rfl rfl Try.func14 (by kernel_rfl) rfl #[.int .i64 a0, .int .i64 a1] rfl (by (try simp only [List.map_toArray, List.map_cons, List.map_nil]); first | done | rfl | (simp only [List.length_drop, List.length_take]; rfl)) ?_; (with_reducible refine (epactref04_Text.calls k a0 a1 t216 t217 _ A15.out).mono ?_); rintro e w36 ⟨rfl, hb⟩; refine ⟨_, rfl, ?_⟩; have n0_ := Aside0.mk (below_step (by repeat (first | (with_reducible first | exact HB.out | apply below_alloc | apply pw_below_drewN | apply below_drew1) | exact HB.out)) hb); clear HB; have HB := n0_; clear n0_; (try clear hb); (try clear hb2); (try clear hk); (try clear hi)) | ((with_reducible refine gate_callee (f := 15) rfl ?_); refine goesL_ (some 87) rfl rfl Try.func15 (by kernel_rfl) rfl #[.string a5] rfl (by (try simp only [List.map_toArray, List.map_cons, List.map_nil]); first | done | rfl | (simp only [List.length_drop, List.length_take]; rfl)) ?_; (with_reducible refine (stamp_Parse.calls k a5 t218 t219 t220 _ A16.out).mono ?_); rintro e w37 ⟨rfl, hb⟩; refine ⟨_, rfl, ?_⟩; have n0_ := Aside0.mk (below_step (by repeat (first | (with_reducible first | exact HB.out | apply below_alloc | apply pw_below_drewN | apply below_drew1) | exact HB.out)) hb); clear HB; have HB := n0_; clear n0_; (try clear hb); (try clear hb2); (try clear hk); (try clear hi)) | ((with_reducible refine gate_callee (f := 16) rfl ?_); refine goesL_ (some 93) rfl rfl Try.func16 (by kernel_rfl) rfl #[.string a5] rfl (by (try simp only [List.map_toArray, List.map_cons, List.map_nil]); first | done | rfl | (simp only [List.length_drop, List.length_take]; rfl)) ?_; (with_reducible refine (epactref04_Parse.calls k a5 t221 t222 t223 _ A17.out).mono ?_); rintro e w38 ⟨rfl, hb⟩; refine ⟨_, rfl, ?_⟩; have n0_ := Aside0.mk (below_step (by repeat (first | (with_reducible first | exact HB.out | apply below_alloc | apply pw_below_drewN | apply below_drew1) | exact HB.out)) hb); clear HB; have HB := n0_; clear n0_; (try clear hb); (try clear hb2); (try clear hk); (try clear hi)) | ((with_reducible refine gate_callee (f := 17) rfl ?_); refine goesL_ (some 99) rfl rfl Try.func17 (by kernel_rfl) rfl #[.int .i64 a0] rfl (by (try simp only [List.map_toArray, List.map_cons, List.map_nil]); first | done | rfl | (simp only [List.length_drop, List.length_take]; rfl)) ?_; (with_reducible refine (stamp_Day.calls k a0 t224 t225 _ A18.out).mono ?_); rintro e w39 ⟨rfl, hb⟩; refine ⟨_, rfl, ?_⟩; have n0_ := Aside0.mk (below_step (by repeat (first | (with_reducible first | exact HB.out | apply below_alloc | apply pw_below_drewN | apply below_drew1) | exact HB.out)) hb); clear HB; have HB := n0_; clear n0_; (try clear hb); (try clear hb2); (try clear hk); (try clear hi)) | ((with_reducible refine gate_callee (f := 18) rfl ?_); refine goesL_ (some 104) rfl rfl Try.func18 (by kernel_rfl) rfl #[.int .i64 a0] rfl (by (try simp only [List.map_toArray, List.map_cons, List.map_nil]); first | done | rfl | (simp only [List.length_drop, List.length_take]; rfl)) ?_; (with_reducible refine (epactref04_Day.calls k a0 t226 t227 _ A19.out).mono ?_); rintro e w40 ⟨rfl, hb⟩; refine ⟨_, rfl, ?_⟩; have n0_ := Aside0.mk (below_step (by repeat (first | (with_reducible first | exact HB.out | apply below_alloc | apply pw_below_drewN | apply below_drew1) | exact HB.out)) hb); clear HB; have HB := n0_; clear n0_; (try clear hb); (try clear hb2); (try clear hk); (try clear hi)))
                              go_ret
                              exact ⟨by first | rfl | (simp [errW_none, errW_some] <;> rfl) | (simp [*, errW_none, errW_some] <;> rfl), by repeat (first | (with_reducible first | exact HB.out | apply below_alloc | apply pw_below_drewN | apply below_drew1) | exact HB.out)⟩
                            · rw [if_neg c32] at H
                              exact absurd H (by simp)
                          · rw [if_neg c31] at H
                            exact absurd H (by simp)
                        · rw [if_neg c30] at H
                          exact absurd H (by simp)
                      · rw [if_neg c29] at H
                        exact absurd H (by simp)
                    · rw [if_neg c28] at H
                      exact absurd H (by simp)
                  · rw [if_neg c27] at H
                    exact absurd H (by simp)
                · rw [if_neg c26] at H
                  exact absurd H (by simp)
              · rw [if_neg c25] at H
                exact absurd H (by simp)
            · rw [if_neg c24] at H
              exact absurd H (by simp)
          · rw [if_neg c23] at H
            exact absurd H (by simp)
        · rw [if_neg c22] at H
          exact absurd H (by simp)
      · rw [if_neg c21] at H
        exact absurd H (by simp)
    · replace c20 := Bool.eq_false_iff.mpr c20
      subst c20
      have H1 : (none) = some r := by rw [if_neg (show ¬ (false = true) by decide)] at H; exact H
      clear H
      have H := H1
      clear H1
      exact absurd H (by simp)

/-- THE ONE PURE STATEMENT of epactlaw04_StampTells: yours. -/
def epactlaw04_StampTells.Pure : Prop := ∀ (a0 : Int) (a1 : Int) (a2 : Int) (a3 : Int) (a4 : Int) (a5 : ByteArray), (Lit.int .i64 a0).wf = true → (Lit.int .i64 a1).wf = true → (Lit.int .i64 a2).wf = true → (Lit.int .i64 a3).wf = true → (Lit.int .i64 a4).wf = true → a5.size ≤ 140737488351232 → ∃ k, epactlaw04_StampTells.f k a0 a1 a2 a3 a4 a5 = some true
theorem epactlaw04_StampTells.walk (P : epactlaw04_StampTells.Pure) (a0 : Int) (a1 : Int) (a2 : Int) (a3 : Int) (a4 : Int) (a5 : ByteArray) (w : World) (w0 : (Lit.int .i64 a0).wf = true) (w1 : (Lit.int .i64 a1).wf = true) (w2 : (Lit.int .i64 a2).wf = true) (w3 : (Lit.int .i64 a3).wf = true) (w4 : (Lit.int .i64 a4).wf = true) (w5 : a5.size ≤ 140737488351232) :
    Calls Try.prog 3 #[.int .i64 a0, .int .i64 a1, .int .i64 a2, .int .i64 a3, .int .i64 a4, .string a5] w fun e w' => e = .returned (.bool true) ∧ Below w.heap.size w w' := by
  obtain ⟨k, h⟩ := P a0 a1 a2 a3 a4 a5 w0 w1 w2 w3 w4 w5
  refine (epactlaw04_StampTells.calls k a0 a1 a2 a3 a4 a5 true w h).mono ?_
  rintro e w' ⟨rfl, hd⟩
  exact ⟨rfl, hd⟩

end Go.Proofs.Ytpgkdagjlbcgkaa.PAll
