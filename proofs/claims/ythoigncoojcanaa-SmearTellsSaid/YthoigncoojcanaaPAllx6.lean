-- Written for this claim by wip/tools of this repo (after the kit's print; own contracts laid in).
import Derived.Test.YthoigncoojcanaaPAllx0
import Derived.Test.YthoigncoojcanaaShort
import Derived.Test.YthoigncoojcanaaPAllx2
import Derived.Test.YthoigncoojcanaaPAllx4
import Derived.Test.YthoigncoojcanaaPAllx5
namespace Go.Proofs.Ythoigncoojcanaa.PAll
open Go.RowKit Go.Proofs.YthoigncoojcanaaW.PrintWords Go.Proofs.YthoigncoojcanaaW.PrintLast Go.Proofs.YthoigncoojcanaaW.PrintMore
attribute [local go_sem] max2_int min2_int max_two min_two max_three min_three max_four min_four   -- for this text's walks alone
set_option linter.unusedVariables false
set_option linter.unusedSimpArgs false

/-! ### scale_Utc: function 21 -/
def scale_Utc.j0 : Nat → List (S53) → Int → Bool → Bool → Option (Int × Int × Int)
 | 0, _, _, _, _ => none
 | k + 1, x0, x7, x8, x23 => if x23 = true then (some (0, 0, 10)) else (if x8 = true then ((record_Sum.f k x0 x7).bind fun t186 => ((num_Sub.f x7 t186).bind fun bt187 => ((num_Div.f bt187.1 86400).bind fun bt189 => ((record_Step.f k x0 x7).bind fun t192 => (if t192 > 0 then (if bt187.2 = true then (if bt189.1 > 2932896 then (some (0, 0, 9)) else (some (bt189.1, wrap64 (bt189.2.1 + 1), 0))) else (some (0, 0, 9))) else (if bt187.2 = true then (if bt189.1 > 2932896 then (some (0, 0, 9)) else (some (bt189.1, bt189.2.1, 0))) else (some (0, 0, 9)))))))) else (some (0, 0, 9)))
def scale_Utc.f (k : Nat) (l0 : List (S53)) (a1 : Int) : Option (Int × Int × Int) := (num_Add.f a1 63072000).bind fun bt181 => ((scale_Known.f k l0).bind fun t183 => (if t183 = true then (if a1 < 0 then (some (0, 0, 9)) else (if bt181.2 = true then ((scale_expired.f k l0 bt181.1).bind fun t184 => (if t184 = true then (scale_Utc.j0 k l0 bt181.1 bt181.2 true) else (scale_Utc.j0 k l0 bt181.1 bt181.2 false))) else ((scale_expired.f k l0 9223372036854775807).bind fun t185 => (scale_Utc.j0 k l0 bt181.1 bt181.2 t185)))) else (some (0, 0, 1))))
theorem scale_Utc.mono_l : ∀ k, (∀ y0 y1 y2 y3, LeO (scale_Utc.j0 k y0 y1 y2 y3) (scale_Utc.j0 (k + 1) y0 y1 y2 y3))
 | 0 => fun _ _ _ _ r h => by simp [scale_Utc.j0] at h
 | k + 1 => by
  have ih0 := scale_Utc.mono_l k
  ·intro y0 y1 y2 y3
   unfold scale_Utc.j0
   repeat' first
   | (with_reducible exact ih0 _ _ _ _)
   | (with_reducible exact record_Step.mono _ _ _)
   | (with_reducible exact record_Sum.mono _ _ _)
   | (with_reducible exact scale_Known.mono _ _)
   | (with_reducible exact scale_expired.mono _ _ _)
   | (with_reducible exact LeO.refl _)
   | (with_reducible exact LeO.none _)
   | (with_reducible refine LeO.ite ?_ ?_)
   | (with_reducible refine LeO.bind ?_ (fun _ => ?_))
theorem scale_Utc.mono : ∀ a0 a1 k, LeO (scale_Utc.f k a0 a1) (scale_Utc.f (k + 1) a0 a1) := by
 intro a0 a1 k
 have ih0 := scale_Utc.mono_l k
 unfold scale_Utc.f
 repeat' first
   | (with_reducible exact ih0 _ _ _ _)
   | (with_reducible exact record_Step.mono _ _ _)
   | (with_reducible exact record_Sum.mono _ _ _)
   | (with_reducible exact scale_Known.mono _ _)
   | (with_reducible exact scale_expired.mono _ _ _)
   | (with_reducible exact LeO.refl _)
   | (with_reducible exact LeO.none _)
   | (with_reducible refine LeO.ite ?_ ?_)
   | (with_reducible refine LeO.bind ?_ (fun _ => ?_))
set_option maxHeartbeats 8000000 in
set_option maxRecDepth 100000 in
theorem scale_Utc.calls (k : Nat) (A0 : Option Addr) (c0 : Nat) (l0 : List (S53)) (a1 : Int) (r1 : Int) (r2 : Int) (r3 : Int) (w : World) (hr0 : Kd.C k53 w A0 l0.length l0) (hc0 : l0.length ≤ c0) (h : scale_Utc.f k l0 a1 = some (r1, r2, r3)) :
  Calls Try.prog 21 #[.slice A0 l0.length c0, .int .i64 a1] w fun e w' => e = .returned (.tuple #[.int .i64 r1, .int .i64 r2, .int .i64 r3]) ∧ Below w.heap.size w w' := by
 have HR0 := Aside0.mk hr0
 have HC0 := Aside0.mk hc0
 clear hr0 hc0
 have HB := Aside0.mk (Below.refl w.heap.size w)
 have H : ((num_Add.f a1 63072000).bind fun bt181 => ((scale_Known.f k l0).bind fun t183 => (if t183 = true then (if a1 < 0 then (some (0, 0, 9)) else (if bt181.2 = true then ((scale_expired.f k l0 bt181.1).bind fun t184 => (if t184 = true then (scale_Utc.j0 k l0 bt181.1 bt181.2 true) else (scale_Utc.j0 k l0 bt181.1 bt181.2 false))) else ((scale_expired.f k l0 9223372036854775807).bind fun t185 => (scale_Utc.j0 k l0 bt181.1 bt181.2 t185)))) else (some (0, 0, 1))))) = some (r1, r2, r3) := h
 clear h
 obtain ⟨⟨t181, t182⟩, A3, H⟩ := bnd H
 try dsimp only at H
 obtain ⟨t183, A4, H⟩ := bnd H
 try dsimp only at H
 by_cases c5 : t183 = true
 ·subst c5
  rw [if_pos rfl] at H
  by_cases c6 : a1 < 0
  ·rw [if_pos c6] at H
   have c6b0 : decide (a1 < 0) = true := decide_eq_true c6
   clear c6
   simp only [Option.some.injEq, Prod.mk.injEq] at H
   obtain ⟨rfl, rfl, rfl⟩ := H
   go_enter Try.func21, Try.ntmps21
   go_wp2_with (first | (refine gN (some 13) Try.func53 #[.int .i64 a1, .int .i64 63072000] (num_Add.calls a1 63072000 t181 t182 _ A3.out) ?_; intro nd) | (refine gM (some 18) Try.func29 #[.slice A0 l0.length c0] (scale_Known.calls k _ _ l0 true _ ?side1 ?side2 A4.out) ?_; (case side1 => exact ca HR0); (case side2 => exact HC0.out); intro w7 hb; replace HB := bs HB hb; (try clear hb)))
   go_ret3
   exact fi HB
  ·rw [if_neg c6] at H
   have c6b0 : decide (a1 < 0) = false := decide_eq_false c6
   clear c6
   have HC8 := Aside0.mk H
   clear H
   go_enter Try.func21, Try.ntmps21
   go_upto_region 6 with (first | (refine gN (some 13) Try.func53 #[.int .i64 a1, .int .i64 63072000] (num_Add.calls a1 63072000 t181 t182 _ A3.out) ?_; intro nd) | (refine gM (some 18) Try.func29 #[.slice A0 l0.length c0] (scale_Known.calls k _ _ l0 true _ ?side1 ?side2 A4.out) ?_; (case side1 => exact ca HR0); (case side2 => exact HC0.out); intro w9 hb; replace HB := bs HB hb; (try clear hb)))
   (try simp only [Act.put, List.setIfInBounds_toArray, List.set_cons_zero, List.set_cons_succ])
   go_cut [23] (fun v23 wc => ∃ (kq : Nat) (x23_7 : Bool), v23 = .bool x23_7 ∧ Aside0 (scale_Utc.j0 kq l0 t181 t182 x23_7 = some (r1, r2, r3)) ∧ Aside0 (kq ≤ k) ∧ Aside0 (Below w.heap.size w wc))
   case first =>
    have H := HC8.out
    clear HC8
    by_cases c10 : t182 = true
    ·subst c10
     rw [if_pos rfl] at H
     obtain ⟨t184, A11, H⟩ := bnd H
     try dsimp only at H
     by_cases c12 : t184 = true
     ·subst c12
      rw [if_pos rfl] at H
      have H' := Aside0.mk H
      clear H
      go_wp2_with (first | (go_at_call 54; (with_reducible refine (scale_expired.calls k _ _ l0 t181 true _ ?side1 ?side2 A11.out).mono ?_); (case side1 => exact cb HR0 HB); (case side2 => exact HC0.out); rintro e w13 ⟨rfl, hb⟩; replace HB := bs HB hb; (try clear hb)))
      go_meet
      case rel => exact ⟨_, (true), pr, H', om, ba HB⟩
     ·replace c12 := Bool.eq_false_iff.mpr c12
      subst c12
      rw [if_neg (show ¬ (false = true) by decide)] at H
      have H' := Aside0.mk H
      clear H
      go_wp2_with (first | (go_at_call 54; (with_reducible refine (scale_expired.calls k _ _ l0 t181 false _ ?side1 ?side2 A11.out).mono ?_); (case side1 => exact cb HR0 HB); (case side2 => exact HC0.out); rintro e w14 ⟨rfl, hb⟩; replace HB := bs HB hb; (try clear hb)))
      go_meet
      case rel => exact ⟨_, (false), pr, H', om, ba HB⟩
    ·replace c10 := Bool.eq_false_iff.mpr c10
     subst c10
     rw [if_neg (show ¬ (false = true) by decide)] at H
     obtain ⟨t185, A15, H⟩ := bnd H
     try dsimp only at H
     have H' := Aside0.mk H
     clear H
     go_wp2_with (first | (go_at_call 54; (with_reducible refine (scale_expired.calls k _ _ l0 9223372036854775807 t185 _ ?side1 ?side2 A15.out).mono ?_); (case side1 => exact cb HR0 HB); (case side2 => exact HC0.out); rintro e w16 ⟨rfl, hb⟩; replace HB := bs HB hb; (try clear hb)))
     go_meet
     case rel => exact ⟨_, (t185), pr, H', om, ba HB⟩
   case rest =>
    clear HC8
    try clear c1
    try clear c2
    try clear p2
    try clear c5
    try clear c6
    try clear c6b0
    try clear c10
    try clear c12
    obtain ⟨kq, x23_7, rfl, HA, HJ7, HB⟩ := hcut
    cases kq with
    | zero => exact absurd HA.out (by simp [scale_Utc.j0])
    | succ kj7 =>
     have H := HA.out
     clear HA
     simp only [scale_Utc.j0] at H
     by_cases c17 : x23_7 = true
     ·subst c17
      rw [if_pos rfl] at H
      simp only [Option.some.injEq, Prod.mk.injEq] at H
      obtain ⟨rfl, rfl, rfl⟩ := H
      go_wp2
      go_ret3
      exact fi HB
     ·replace c17 := Bool.eq_false_iff.mpr c17
      subst c17
      rw [if_neg (show ¬ (false = true) by decide)] at H
      by_cases c18 : t182 = true
      ·subst c18
       rw [if_pos rfl] at H
       obtain ⟨t186, A19, H⟩ := bnd H
       try dsimp only at H
       obtain ⟨⟨t187, t188⟩, A20, H⟩ := bnd H
       try dsimp only at H
       obtain ⟨⟨t189, t190, t191⟩, A21, H⟩ := bnd H
       try dsimp only at H
       obtain ⟨t192, A22, H⟩ := bnd H
       try dsimp only at H
       by_cases c23 : t192 > 0
       ·rw [if_pos c23] at H
        have c23b0 : decide (0 < t192) = true := decide_eq_true c23
        clear c23
        by_cases c24 : t188 = true
        ·subst c24
         rw [if_pos rfl] at H
         by_cases c25 : t189 > 2932896
         ·rw [if_pos c25] at H
          have c25b0 : decide (2932896 < t189) = true := decide_eq_true c25
          clear c25
          simp only [Option.some.injEq, Prod.mk.injEq] at H
          obtain ⟨rfl, rfl, rfl⟩ := H
          go_wp2_with (first | (refine gM (some 45) Try.func56 #[.slice A0 l0.length c0, .int .i64 t181] (record_Sum.calls kj7 _ _ l0 t181 t186 _ ?side1 ?side2 A19.out) ?_; (case side1 => exact cb HR0 HB); (case side2 => exact HC0.out); intro w26 hb; replace HB := bs HB hb; (try clear hb)) | (refine gN (some 46) Try.func55 #[.int .i64 t181, .int .i64 t186] (num_Sub.calls t181 t186 t187 true _ A20.out) ?_; intro nd) | (refine gN (some 51) Try.func57 #[.int .i64 t187, .int .i64 86400] (num_Div.calls t187 86400 t189 t190 t191 _ A21.out) ?_; intro nd) | (refine gM (some 57) Try.func58 #[.slice A0 l0.length c0, .int .i64 t181] (record_Step.calls kj7 _ _ l0 t181 t192 _ ?side1 ?side2 A22.out) ?_; (case side1 => repeat (first | exact (Kd.C_below HR0.out (by repeat (first | (with_reducible first | exact HB.out | apply below_alloc | apply pw_below_drewN | apply below_drew1) | exact HB.out))) | (with_reducible refine Kd.C_alloc ?_ _) | (with_reducible refine Kd.C_drewN ?_ _) | (with_reducible refine Kd.C_drew ?_))); (case side2 => exact HC0.out); intro w27 hb; replace HB := bs HB hb; (try clear hb)))
          go_ret3
          exact fi HB
         ·rw [if_neg c25] at H
          have c25b0 : decide (2932896 < t189) = false := decide_eq_false c25
          clear c25
          simp only [Option.some.injEq, Prod.mk.injEq] at H
          obtain ⟨rfl, rfl, rfl⟩ := H
          go_wp2_with (first | (refine gM (some 45) Try.func56 #[.slice A0 l0.length c0, .int .i64 t181] (record_Sum.calls kj7 _ _ l0 t181 t186 _ ?side1 ?side2 A19.out) ?_; (case side1 => exact cb HR0 HB); (case side2 => exact HC0.out); intro w28 hb; replace HB := bs HB hb; (try clear hb)) | (refine gN (some 46) Try.func55 #[.int .i64 t181, .int .i64 t186] (num_Sub.calls t181 t186 t187 true _ A20.out) ?_; intro nd) | (refine gN (some 51) Try.func57 #[.int .i64 t187, .int .i64 86400] (num_Div.calls t187 86400 t189 t190 t191 _ A21.out) ?_; intro nd) | (refine gM (some 57) Try.func58 #[.slice A0 l0.length c0, .int .i64 t181] (record_Step.calls kj7 _ _ l0 t181 t192 _ ?side1 ?side2 A22.out) ?_; (case side1 => repeat (first | exact (Kd.C_below HR0.out (by repeat (first | (with_reducible first | exact HB.out | apply below_alloc | apply pw_below_drewN | apply below_drew1) | exact HB.out))) | (with_reducible refine Kd.C_alloc ?_ _) | (with_reducible refine Kd.C_drewN ?_ _) | (with_reducible refine Kd.C_drew ?_))); (case side2 => exact HC0.out); intro w29 hb; replace HB := bs HB hb; (try clear hb)))
          go_ret3
          exact fi HB
        ·replace c24 := Bool.eq_false_iff.mpr c24
         subst c24
         rw [if_neg (show ¬ (false = true) by decide)] at H
         simp only [Option.some.injEq, Prod.mk.injEq] at H
         obtain ⟨rfl, rfl, rfl⟩ := H
         go_wp2_with (first | (refine gM (some 45) Try.func56 #[.slice A0 l0.length c0, .int .i64 t181] (record_Sum.calls kj7 _ _ l0 t181 t186 _ ?side1 ?side2 A19.out) ?_; (case side1 => exact cb HR0 HB); (case side2 => exact HC0.out); intro w30 hb; replace HB := bs HB hb; (try clear hb)) | (refine gN (some 46) Try.func55 #[.int .i64 t181, .int .i64 t186] (num_Sub.calls t181 t186 t187 false _ A20.out) ?_; intro nd) | (refine gN (some 51) Try.func57 #[.int .i64 t187, .int .i64 86400] (num_Div.calls t187 86400 t189 t190 t191 _ A21.out) ?_; intro nd) | (refine gM (some 57) Try.func58 #[.slice A0 l0.length c0, .int .i64 t181] (record_Step.calls kj7 _ _ l0 t181 t192 _ ?side1 ?side2 A22.out) ?_; (case side1 => repeat (first | exact (Kd.C_below HR0.out (by repeat (first | (with_reducible first | exact HB.out | apply below_alloc | apply pw_below_drewN | apply below_drew1) | exact HB.out))) | (with_reducible refine Kd.C_alloc ?_ _) | (with_reducible refine Kd.C_drewN ?_ _) | (with_reducible refine Kd.C_drew ?_))); (case side2 => exact HC0.out); intro w31 hb; replace HB := bs HB hb; (try clear hb)))
         go_ret3
         exact fi HB
       ·rw [if_neg c23] at H
        have c23b0 : decide (0 < t192) = false := decide_eq_false c23
        clear c23
        by_cases c32 : t188 = true
        ·subst c32
         rw [if_pos rfl] at H
         by_cases c33 : t189 > 2932896
         ·rw [if_pos c33] at H
          have c33b0 : decide (2932896 < t189) = true := decide_eq_true c33
          clear c33
          simp only [Option.some.injEq, Prod.mk.injEq] at H
          obtain ⟨rfl, rfl, rfl⟩ := H
          go_wp2_with (first | (refine gM (some 45) Try.func56 #[.slice A0 l0.length c0, .int .i64 t181] (record_Sum.calls kj7 _ _ l0 t181 t186 _ ?side1 ?side2 A19.out) ?_; (case side1 => exact cb HR0 HB); (case side2 => exact HC0.out); intro w34 hb; replace HB := bs HB hb; (try clear hb)) | (refine gN (some 46) Try.func55 #[.int .i64 t181, .int .i64 t186] (num_Sub.calls t181 t186 t187 true _ A20.out) ?_; intro nd) | (refine gN (some 51) Try.func57 #[.int .i64 t187, .int .i64 86400] (num_Div.calls t187 86400 t189 t190 t191 _ A21.out) ?_; intro nd) | (refine gM (some 57) Try.func58 #[.slice A0 l0.length c0, .int .i64 t181] (record_Step.calls kj7 _ _ l0 t181 t192 _ ?side1 ?side2 A22.out) ?_; (case side1 => repeat (first | exact (Kd.C_below HR0.out (by repeat (first | (with_reducible first | exact HB.out | apply below_alloc | apply pw_below_drewN | apply below_drew1) | exact HB.out))) | (with_reducible refine Kd.C_alloc ?_ _) | (with_reducible refine Kd.C_drewN ?_ _) | (with_reducible refine Kd.C_drew ?_))); (case side2 => exact HC0.out); intro w35 hb; replace HB := bs HB hb; (try clear hb)))
          go_ret3
          exact fi HB
         ·rw [if_neg c33] at H
          have c33b0 : decide (2932896 < t189) = false := decide_eq_false c33
          clear c33
          simp only [Option.some.injEq, Prod.mk.injEq] at H
          obtain ⟨rfl, rfl, rfl⟩ := H
          go_wp2_with (first | (refine gM (some 45) Try.func56 #[.slice A0 l0.length c0, .int .i64 t181] (record_Sum.calls kj7 _ _ l0 t181 t186 _ ?side1 ?side2 A19.out) ?_; (case side1 => exact cb HR0 HB); (case side2 => exact HC0.out); intro w36 hb; replace HB := bs HB hb; (try clear hb)) | (refine gN (some 46) Try.func55 #[.int .i64 t181, .int .i64 t186] (num_Sub.calls t181 t186 t187 true _ A20.out) ?_; intro nd) | (refine gN (some 51) Try.func57 #[.int .i64 t187, .int .i64 86400] (num_Div.calls t187 86400 t189 t190 t191 _ A21.out) ?_; intro nd) | (refine gM (some 57) Try.func58 #[.slice A0 l0.length c0, .int .i64 t181] (record_Step.calls kj7 _ _ l0 t181 t192 _ ?side1 ?side2 A22.out) ?_; (case side1 => repeat (first | exact (Kd.C_below HR0.out (by repeat (first | (with_reducible first | exact HB.out | apply below_alloc | apply pw_below_drewN | apply below_drew1) | exact HB.out))) | (with_reducible refine Kd.C_alloc ?_ _) | (with_reducible refine Kd.C_drewN ?_ _) | (with_reducible refine Kd.C_drew ?_))); (case side2 => exact HC0.out); intro w37 hb; replace HB := bs HB hb; (try clear hb)))
          go_ret3
          exact fi HB
        ·replace c32 := Bool.eq_false_iff.mpr c32
         subst c32
         rw [if_neg (show ¬ (false = true) by decide)] at H
         simp only [Option.some.injEq, Prod.mk.injEq] at H
         obtain ⟨rfl, rfl, rfl⟩ := H
         go_wp2_with (first | (refine gM (some 45) Try.func56 #[.slice A0 l0.length c0, .int .i64 t181] (record_Sum.calls kj7 _ _ l0 t181 t186 _ ?side1 ?side2 A19.out) ?_; (case side1 => exact cb HR0 HB); (case side2 => exact HC0.out); intro w38 hb; replace HB := bs HB hb; (try clear hb)) | (refine gN (some 46) Try.func55 #[.int .i64 t181, .int .i64 t186] (num_Sub.calls t181 t186 t187 false _ A20.out) ?_; intro nd) | (refine gN (some 51) Try.func57 #[.int .i64 t187, .int .i64 86400] (num_Div.calls t187 86400 t189 t190 t191 _ A21.out) ?_; intro nd) | (refine gM (some 57) Try.func58 #[.slice A0 l0.length c0, .int .i64 t181] (record_Step.calls kj7 _ _ l0 t181 t192 _ ?side1 ?side2 A22.out) ?_; (case side1 => repeat (first | exact (Kd.C_below HR0.out (by repeat (first | (with_reducible first | exact HB.out | apply below_alloc | apply pw_below_drewN | apply below_drew1) | exact HB.out))) | (with_reducible refine Kd.C_alloc ?_ _) | (with_reducible refine Kd.C_drewN ?_ _) | (with_reducible refine Kd.C_drew ?_))); (case side2 => exact HC0.out); intro w39 hb; replace HB := bs HB hb; (try clear hb)))
         go_ret3
         exact fi HB
      ·replace c18 := Bool.eq_false_iff.mpr c18
       subst c18
       rw [if_neg (show ¬ (false = true) by decide)] at H
       simp only [Option.some.injEq, Prod.mk.injEq] at H
       obtain ⟨rfl, rfl, rfl⟩ := H
       go_wp2
       go_ret3
       exact fi HB
 ·replace c5 := Bool.eq_false_iff.mpr c5
  subst c5
  rw [if_neg (show ¬ (false = true) by decide)] at H
  simp only [Option.some.injEq, Prod.mk.injEq] at H
  obtain ⟨rfl, rfl, rfl⟩ := H
  go_enter Try.func21, Try.ntmps21
  go_wp2_with (first | (refine gN (some 13) Try.func53 #[.int .i64 a1, .int .i64 63072000] (num_Add.calls a1 63072000 t181 t182 _ A3.out) ?_; intro nd) | (refine gM (some 18) Try.func29 #[.slice A0 l0.length c0] (scale_Known.calls k _ _ l0 false _ ?side1 ?side2 A4.out) ?_; (case side1 => exact ca HR0); (case side2 => exact HC0.out); intro w40 hb; replace HB := bs HB hb; (try clear hb)))
  go_ret3
  exact fi HB

/-! ### posix_Of: function 59 -/
def posix_Of.f (a0 : Int) (a1 : Int) : Option (Int × Bool) := if a0 < (-719162) then (some (0, false)) else (if a0 > 2932896 then (some (0, false)) else (if a1 < 0 then (some (0, false)) else (if a1 > 86400 then (some (0, false)) else (some (wrap64 ((wrap64 (a0 * 86400)) + (mn a1 86399)), true)))))
set_option maxHeartbeats 8000000 in
set_option maxRecDepth 100000 in
theorem posix_Of.calls (a0 : Int) (a1 : Int) (r1 : Int) (r2 : Bool) (w : World) (h : posix_Of.f a0 a1 = some (r1, r2)) :
  Calls Try.prog 59 #[.int .i64 a0, .int .i64 a1] w fun e w' => e = .returned (.tuple #[.int .i64 r1, .bool r2]) ∧ Below w.heap.size w w' := by
 have HB := Aside0.mk (Below.refl w.heap.size w)
 have H : (if a0 < (-719162) then (some (0, false)) else (if a0 > 2932896 then (some (0, false)) else (if a1 < 0 then (some (0, false)) else (if a1 > 86400 then (some (0, false)) else (some (wrap64 ((wrap64 (a0 * 86400)) + (mn a1 86399)), true)))))) = some (r1, r2) := h
 clear h
 by_cases c3 : a0 < (-719162)
 ·rw [if_pos c3] at H
  have c3b0 : decide (a0 < (-719162)) = true := decide_eq_true c3
  clear c3
  simp only [Option.some.injEq, Prod.mk.injEq] at H
  obtain ⟨rfl, rfl⟩ := H
  go_enter Try.func59, Try.ntmps59
  go_wp2
  go_ret2
  exact fi HB
 ·rw [if_neg c3] at H
  have c3b0 : decide (a0 < (-719162)) = false := decide_eq_false c3
  clear c3
  by_cases c4 : a0 > 2932896
  ·rw [if_pos c4] at H
   have c4b0 : decide (2932896 < a0) = true := decide_eq_true c4
   clear c4
   simp only [Option.some.injEq, Prod.mk.injEq] at H
   obtain ⟨rfl, rfl⟩ := H
   go_enter Try.func59, Try.ntmps59
   go_wp2
   go_ret2
   exact fi HB
  ·rw [if_neg c4] at H
   have c4b0 : decide (2932896 < a0) = false := decide_eq_false c4
   clear c4
   by_cases c5 : a1 < 0
   ·rw [if_pos c5] at H
    have c5b0 : decide (a1 < 0) = true := decide_eq_true c5
    clear c5
    simp only [Option.some.injEq, Prod.mk.injEq] at H
    obtain ⟨rfl, rfl⟩ := H
    go_enter Try.func59, Try.ntmps59
    go_wp2
    go_ret2
    exact fi HB
   ·rw [if_neg c5] at H
    have c5b0 : decide (a1 < 0) = false := decide_eq_false c5
    clear c5
    by_cases c6 : a1 > 86400
    ·rw [if_pos c6] at H
     have c6b0 : decide (86400 < a1) = true := decide_eq_true c6
     clear c6
     simp only [Option.some.injEq, Prod.mk.injEq] at H
     obtain ⟨rfl, rfl⟩ := H
     go_enter Try.func59, Try.ntmps59
     go_wp2
     go_ret2
     exact fi HB
    ·rw [if_neg c6] at H
     have c6b0 : decide (86400 < a1) = false := decide_eq_false c6
     clear c6
     obtain ⟨ji7, hji7⟩ : ∃ j_ : Int, (mn a1 86399) = j_ := ⟨_, rfl⟩
     replace H : (some (wrap64 ((wrap64 (a0 * 86400)) + (ji7)), true)) = some (r1, r2) := by first | (rw [hji7] at H; exact H) | (simp only [hji7] at H ⊢; exact H)
     (try (have hji7h : ji7 ≤ 86399 := by (rw [← hji7]; unfold mn; (repeat' split) <;> omega)))
     (try (have hji7g : ji7 ≤ 64 := by omega))
     have hji7_ : (if 86399 < a1 then 86399 else a1) = ji7 := hji7
     simp only [Option.some.injEq, Prod.mk.injEq] at H
     obtain ⟨rfl, rfl⟩ := H
     go_enter Try.func59, Try.ntmps59
     go_wp2
     go_ret2
     exact ⟨by first | rfl | (simp [errW_none, errW_some] <;> rfl) | (simp only [← hji7]; first | rfl | (simp [errW_none, errW_some] <;> rfl)) | (simp [*, errW_none, errW_some] <;> rfl), by repeat (first | (with_reducible first | exact HB.out | apply below_alloc | apply pw_below_drewN | apply below_drew1) | exact HB.out)⟩

/-! ### posix_From: function 23 -/
def posix_From.f (k : Nat) (l0 : List (S53)) (a1 : Int) : Option (Int × Int) := (scale_Utc.f k l0 a1).bind fun bt193 => (if bt193.2.2 = 0 then ((posix_Of.f bt193.1 bt193.2.1).bind fun bt196 => (some (bt196.1, bt193.2.2))) else (some (0, bt193.2.2)))
theorem posix_From.mono : ∀ a0 a1 k, LeO (posix_From.f k a0 a1) (posix_From.f (k + 1) a0 a1) := by
 intro a0 a1 k
 unfold posix_From.f
 repeat' first
   | (with_reducible exact scale_Utc.mono _ _ _)
   | (with_reducible exact LeO.refl _)
   | (with_reducible exact LeO.none _)
   | (with_reducible refine LeO.ite ?_ ?_)
   | (with_reducible refine LeO.bind ?_ (fun _ => ?_))
set_option maxHeartbeats 8000000 in
set_option maxRecDepth 100000 in
theorem posix_From.calls (k : Nat) (A0 : Option Addr) (c0 : Nat) (l0 : List (S53)) (a1 : Int) (r1 : Int) (r2 : Int) (w : World) (hr0 : Kd.C k53 w A0 l0.length l0) (hc0 : l0.length ≤ c0) (h : posix_From.f k l0 a1 = some (r1, r2)) :
  Calls Try.prog 23 #[.slice A0 l0.length c0, .int .i64 a1] w fun e w' => e = .returned (.tuple #[.int .i64 r1, .int .i64 r2]) ∧ Below w.heap.size w w' := by
 have HR0 := Aside0.mk hr0
 have HC0 := Aside0.mk hc0
 clear hr0 hc0
 have HB := Aside0.mk (Below.refl w.heap.size w)
 have H : ((scale_Utc.f k l0 a1).bind fun bt193 => (if bt193.2.2 = 0 then ((posix_Of.f bt193.1 bt193.2.1).bind fun bt196 => (some (bt196.1, bt193.2.2))) else (some (0, bt193.2.2)))) = some (r1, r2) := h
 clear h
 obtain ⟨⟨t193, t194, t195⟩, A3, H⟩ := bnd H
 try dsimp only at H
 by_cases c4 : t195 = 0
 ·rw [if_pos c4] at H
  have c4b0 : (t195 == 0) = true := beq_iff_eq.mpr c4
  have c4b1 : (t195 != 0) = false := bne_eq_false_iff_eq.mpr c4
  clear c4
  obtain ⟨⟨t196, t197⟩, A5, H⟩ := bnd H
  try dsimp only at H
  simp only [Option.some.injEq, Prod.mk.injEq] at H
  obtain ⟨rfl, rfl⟩ := H
  go_enter Try.func23, Try.ntmps23
  go_wp2_with (first | (refine gM (some 11) Try.func21 #[.slice A0 l0.length c0, .int .i64 a1] (scale_Utc.calls k _ _ l0 a1 t193 t194 t195 _ ?side1 ?side2 A3.out) ?_; (case side1 => exact ca HR0); (case side2 => exact HC0.out); intro w6 hb; replace HB := bs HB hb; (try clear hb)) | (refine gM (some 20) Try.func59 #[.int .i64 t193, .int .i64 t194] (posix_Of.calls t193 t194 t196 t197 _ A5.out) ?_; intro w7 hb; replace HB := bs HB hb; (try clear hb)))
  go_ret2
  exact fi HB
 ·rw [if_neg c4] at H
  have c4b0 : (t195 == 0) = false := beq_eq_false_iff_ne.mpr c4
  have c4b1 : (t195 != 0) = true := bne_iff_ne.mpr c4
  simp only [Option.some.injEq, Prod.mk.injEq] at H
  obtain ⟨rfl, rfl⟩ := H
  go_enter Try.func23, Try.ntmps23
  go_wp2_with (first | (refine gM (some 11) Try.func21 #[.slice A0 l0.length c0, .int .i64 a1] (scale_Utc.calls k _ _ l0 a1 t193 t194 t195 _ ?side1 ?side2 A3.out) ?_; (case side1 => exact ca HR0); (case side2 => exact HC0.out); intro w8 hb; replace HB := bs HB hb; (try clear hb)))
  go_ret2
  exact fi HB

/-! ### smear_right: function 43 -/
def smear_right.f (k : Nat) (l0 : List (S53)) (a1_0 : Int) (a1_1 : Int) : Option (Bool) := if a1_1 ≥ 0 then (if a1_1 < 1000000000 then ((scale_Known.f k l0).bind fun t199 => (some t199)) else (some false)) else (some false)
theorem smear_right.mono : ∀ a0 a1 a2 k, LeO (smear_right.f k a0 a1 a2) (smear_right.f (k + 1) a0 a1 a2) := by
 intro a0 a1 a2 k
 unfold smear_right.f
 repeat' first
   | (with_reducible exact scale_Known.mono _ _)
   | (with_reducible exact LeO.refl _)
   | (with_reducible exact LeO.none _)
   | (with_reducible refine LeO.ite ?_ ?_)
   | (with_reducible refine LeO.bind ?_ (fun _ => ?_))
set_option maxHeartbeats 8000000 in
set_option maxRecDepth 100000 in
theorem smear_right.calls (k : Nat) (A0 : Option Addr) (c0 : Nat) (l0 : List (S53)) (a1_0 : Int) (a1_1 : Int) (r : Bool) (w : World) (hr0 : Kd.C k53 w A0 l0.length l0) (hc0 : l0.length ≤ c0) (h : smear_right.f k l0 a1_0 a1_1 = some r) :
  Calls Try.prog 43 #[.slice A0 l0.length c0, .agg #[.int .i64 a1_0, .int .i64 a1_1]] w fun e w' => e = .returned (.bool r) ∧ Below w.heap.size w w' := by
 have hu24 := Try.underlying24
 have HR0 := Aside0.mk hr0
 have HC0 := Aside0.mk hc0
 clear hr0 hc0
 have HB := Aside0.mk (Below.refl w.heap.size w)
 have H : (if a1_1 ≥ 0 then (if a1_1 < 1000000000 then ((scale_Known.f k l0).bind fun t199 => (some t199)) else (some false)) else (some false)) = some r := h
 clear h
 by_cases c3 : a1_1 ≥ 0
 ·rw [if_pos c3] at H
  have c3b0 : decide (0 ≤ a1_1) = true := decide_eq_true c3
  clear c3
  by_cases c4 : a1_1 < 1000000000
  ·rw [if_pos c4] at H
   have c4b0 : decide (a1_1 < 1000000000) = true := decide_eq_true c4
   clear c4
   obtain ⟨t199, A5, H⟩ := bnd H
   try dsimp only at H
   obtain rfl := Option.some.inj H
   go_enter Try.func43, Try.ntmps43
   go_wp2_with (first | (refine bx 3 #[.int .i64 a1_0, .int .i64 a1_1] 24 ?_; intro gb198 hg w6 hbox hb; have n1_ := Aside0.mk (hbox); have GW198 := gw HB hg; have GE198 := gw HB hg; replace HB := bs HB hb; have BK198 := n1_; clear n1_; clear hb hbox hg; have hcz7_0 := bc BK198 0; have hcz7_1 := bc BK198 1; have hfz7_0 := bf BK198 0; have hfz7_1 := bf BK198 1) | (go_at_call 29; (with_reducible refine (scale_Known.calls k _ _ l0 t199 _ ?side1 ?side2 A5.out).mono ?_); (case side1 => exact cb HR0 HB); (case side2 => exact HC0.out); rintro e w8 ⟨rfl, hb⟩; replace BK198 := kb BK198 hb; replace HB := bs HB hb; (try clear hb)))
   go_ret
   exact fi HB
  ·rw [if_neg c4] at H
   have c4b0 : decide (a1_1 < 1000000000) = false := decide_eq_false c4
   clear c4
   obtain rfl := Option.some.inj H
   go_enter Try.func43, Try.ntmps43
   go_wp2_with (first | (refine bx 3 #[.int .i64 a1_0, .int .i64 a1_1] 24 ?_; intro gb198 hg w9 hbox hb; have n1_ := Aside0.mk (hbox); have GW198 := gw HB hg; have GE198 := gw HB hg; replace HB := bs HB hb; have BK198 := n1_; clear n1_; clear hb hbox hg; have hcz10_0 := bc BK198 0; have hcz10_1 := bc BK198 1; have hfz10_0 := bf BK198 0; have hfz10_1 := bf BK198 1))
   go_ret
   exact fi HB
 ·rw [if_neg c3] at H
  have c3b0 : decide (0 ≤ a1_1) = false := decide_eq_false c3
  clear c3
  obtain rfl := Option.some.inj H
  go_enter Try.func43, Try.ntmps43
  go_wp2_with (first | (refine bx 3 #[.int .i64 a1_0, .int .i64 a1_1] 24 ?_; intro gb198 hg w11 hbox hb; have n1_ := Aside0.mk (hbox); have GW198 := gw HB hg; have GE198 := gw HB hg; replace HB := bs HB hb; have BK198 := n1_; clear n1_; clear hb hbox hg; have hcz12_0 := bc BK198 0; have hcz12_1 := bc BK198 1; have hfz12_0 := bf BK198 0; have hfz12_1 := bf BK198 1))
  go_ret
  exact fi HB

/-! ### smear_Plain: function 17 -/
def smear_Plain.f (k : Nat) (l0 : List (S53)) (a1_0 : Int) (a1_1 : Int) : Option (Int × Int × Int) := (smear_right.f k l0 a1_0 a1_1).bind fun t202 => (if t202 = true then ((posix_From.f k l0 a1_0).bind fun bt203 => (if bt203.2 = 0 then (some (bt203.1, a1_1, 0)) else (some (0, 0, bt203.2)))) else (some (0, 0, 1)))
theorem smear_Plain.mono : ∀ a0 a1 a2 k, LeO (smear_Plain.f k a0 a1 a2) (smear_Plain.f (k + 1) a0 a1 a2) := by
 intro a0 a1 a2 k
 unfold smear_Plain.f
 repeat' first
   | (with_reducible exact posix_From.mono _ _ _)
   | (with_reducible exact smear_right.mono _ _ _ _)
   | (with_reducible exact LeO.refl _)
   | (with_reducible exact LeO.none _)
   | (with_reducible refine LeO.ite ?_ ?_)
   | (with_reducible refine LeO.bind ?_ (fun _ => ?_))
set_option maxHeartbeats 8000000 in
set_option maxRecDepth 100000 in
theorem smear_Plain.calls (k : Nat) (A0 : Option Addr) (c0 : Nat) (l0 : List (S53)) (a1_0 : Int) (a1_1 : Int) (r1 : Int) (r2 : Int) (r3 : Int) (w : World) (hr0 : Kd.C k53 w A0 l0.length l0) (hc0 : l0.length ≤ c0) (h : smear_Plain.f k l0 a1_0 a1_1 = some (r1, r2, r3)) :
  Calls Try.prog 17 #[.slice A0 l0.length c0, .agg #[.int .i64 a1_0, .int .i64 a1_1]] w fun e w' => e = .returned (.tuple #[.agg #[.int .i64 r1, .int .i64 r2], .int .i64 r3]) ∧ Below w.heap.size w w' := by
 have hu24 := Try.underlying24
 have HR0 := Aside0.mk hr0
 have HC0 := Aside0.mk hc0
 clear hr0 hc0
 have HB := Aside0.mk (Below.refl w.heap.size w)
 have H : ((smear_right.f k l0 a1_0 a1_1).bind fun t202 => (if t202 = true then ((posix_From.f k l0 a1_0).bind fun bt203 => (if bt203.2 = 0 then (some (bt203.1, a1_1, 0)) else (some (0, 0, bt203.2)))) else (some (0, 0, 1)))) = some (r1, r2, r3) := h
 clear h
 obtain ⟨t202, A3, H⟩ := bnd H
 try dsimp only at H
 by_cases c4 : t202 = true
 ·subst c4
  rw [if_pos rfl] at H
  obtain ⟨⟨t203, t204⟩, A5, H⟩ := bnd H
  try dsimp only at H
  by_cases c6 : t204 = 0
  ·rw [if_pos c6] at H
   have c6b0 : (t204 == 0) = true := beq_iff_eq.mpr c6
   have c6b1 : (t204 != 0) = false := bne_eq_false_iff_eq.mpr c6
   clear c6
   simp only [Option.some.injEq, Prod.mk.injEq] at H
   obtain ⟨rfl, rfl, rfl⟩ := H
   go_enter Try.func17, Try.ntmps17
   go_wp2_with (first | (refine bx 3 #[.int .i64 a1_0, .int .i64 a1_1] 24 ?_; intro gb200 hg w7 hbox hb; have n1_ := Aside0.mk (hbox); have GW200 := gw HB hg; have GE200 := gw HB hg; replace HB := bs HB hb; have BK200 := n1_; clear n1_; clear hb hbox hg) | (refine bx 4 #[.int .i64 0, .int .i64 0] 24 ?_; intro gb201 hg w8 hbox hb; have n2_ := Aside0.mk (hbox); have GW201 := gw HB hg; have GE201 := gw HB hg; have NB200_201 := nl BK200 hg; have NB201_200 := nr BK200 hg; replace BK200 := kb BK200 hb; replace HB := bs HB hb; have BK201 := n2_; clear n2_; clear hb hbox hg; have hnb9 := NB200_201.out; have hnc9 := NB201_200.out; have hcz10_0 := bc BK200 0; have hcz10_1 := bc BK200 1; have hfz10_0 := bf BK200 0; have hfz10_1 := bf BK200 1) | (refine gM (some 10) Try.func43 #[.slice A0 l0.length c0, .agg #[.int .i64 a1_0, .int .i64 a1_1]] (smear_right.calls k _ _ l0 a1_0 a1_1 true _ ?side1 ?side2 A3.out) ?_; (case side1 => exact cb HR0 HB); (case side2 => exact HC0.out); intro w11 hb; replace BK200 := kb BK200 hb; replace BK201 := kb BK201 hb; replace HB := bs HB hb; (try clear hb); have hcz12_0 := bc BK200 0; have hcz12_1 := bc BK200 1; have hfz12_0 := bf BK200 0; have hfz12_1 := bf BK200 1) | (refine gM (some 17) Try.func23 #[.slice A0 l0.length c0, .int .i64 a1_0] (posix_From.calls k _ _ l0 a1_0 t203 t204 _ ?side1 ?side2 A5.out) ?_; (case side1 => exact cb HR0 HB); (case side2 => exact HC0.out); intro w13 hb; replace BK200 := kb BK200 hb; replace BK201 := kb BK201 hb; replace HB := bs HB hb; (try clear hb); have hcz14_0 := bc BK200 0; have hcz14_1 := bc BK200 1; have hfz14_0 := bf BK200 0; have hfz14_1 := bf BK200 1; have hcz15_0 := bc BK201 0; have hcz15_1 := bc BK201 1; have hfz15_0 := bf BK201 0; have hfz15_1 := bf BK201 1))
   refine bodyPost_ret (results_ct rfl _ _ gb201 24 #[.int .i64 t203, .int .i64 a1_1] (0, 0) _ rfl (by (with_reducible repeat (first | refine blk_drewN ?_ _ | refine blk_drew ?_ | refine blk_alloc ?_ _)); refine blk_put (cs := #[.int .i64 t203, .int .i64 0]) ?_ 1 _ rfl; (with_reducible repeat (first | refine blk_drewN ?_ _ | refine blk_drew ?_ | refine blk_alloc ?_ _)); refine blk_put (cs := #[.int .i64 0, .int .i64 0]) ?_ 0 _ rfl; (with_reducible repeat (first | refine blk_drewN ?_ _ | refine blk_drew ?_ | refine blk_alloc ?_ _)); exact BK201.out) Try.underlying24 rfl (by kernel_rfl)) rfl ?_
   exact fi HB
  ·rw [if_neg c6] at H
   have c6b0 : (t204 == 0) = false := beq_eq_false_iff_ne.mpr c6
   have c6b1 : (t204 != 0) = true := bne_iff_ne.mpr c6
   simp only [Option.some.injEq, Prod.mk.injEq] at H
   obtain ⟨rfl, rfl, rfl⟩ := H
   go_enter Try.func17, Try.ntmps17
   go_wp2_with (first | (refine bx 3 #[.int .i64 a1_0, .int .i64 a1_1] 24 ?_; intro gb200 hg w16 hbox hb; have n1_ := Aside0.mk (hbox); have GW200 := gw HB hg; have GE200 := gw HB hg; replace HB := bs HB hb; have BK200 := n1_; clear n1_; clear hb hbox hg) | (refine bx 4 #[.int .i64 0, .int .i64 0] 24 ?_; intro gb201 hg w17 hbox hb; have n2_ := Aside0.mk (hbox); have GW201 := gw HB hg; have GE201 := gw HB hg; have NB200_201 := nl BK200 hg; have NB201_200 := nr BK200 hg; replace BK200 := kb BK200 hb; replace HB := bs HB hb; have BK201 := n2_; clear n2_; clear hb hbox hg; have hnb18 := NB200_201.out; have hnc18 := NB201_200.out; have hcz19_0 := bc BK200 0; have hcz19_1 := bc BK200 1; have hfz19_0 := bf BK200 0; have hfz19_1 := bf BK200 1) | (refine gM (some 10) Try.func43 #[.slice A0 l0.length c0, .agg #[.int .i64 a1_0, .int .i64 a1_1]] (smear_right.calls k _ _ l0 a1_0 a1_1 true _ ?side1 ?side2 A3.out) ?_; (case side1 => exact cb HR0 HB); (case side2 => exact HC0.out); intro w20 hb; replace BK200 := kb BK200 hb; replace BK201 := kb BK201 hb; replace HB := bs HB hb; (try clear hb); have hcz21_0 := bc BK200 0; have hcz21_1 := bc BK200 1; have hfz21_0 := bf BK200 0; have hfz21_1 := bf BK200 1) | (refine gM (some 17) Try.func23 #[.slice A0 l0.length c0, .int .i64 a1_0] (posix_From.calls k _ _ l0 a1_0 t203 t204 _ ?side1 ?side2 A5.out) ?_; (case side1 => exact cb HR0 HB); (case side2 => exact HC0.out); intro w22 hb; replace BK200 := kb BK200 hb; replace BK201 := kb BK201 hb; replace HB := bs HB hb; (try clear hb); have hcz23_0 := bc BK201 0; have hcz23_1 := bc BK201 1; have hfz23_0 := bf BK201 0; have hfz23_1 := bf BK201 1))
   refine bodyPost_ret (results_ct rfl _ _ gb201 24 #[.int .i64 0, .int .i64 0] (0, 0) _ rfl (by (with_reducible repeat (first | refine blk_drewN ?_ _ | refine blk_drew ?_ | refine blk_alloc ?_ _)); refine blk_put (cs := #[.int .i64 0, .int .i64 0]) ?_ 1 _ rfl; (with_reducible repeat (first | refine blk_drewN ?_ _ | refine blk_drew ?_ | refine blk_alloc ?_ _)); refine blk_put (cs := #[.int .i64 0, .int .i64 0]) ?_ 0 _ rfl; (with_reducible repeat (first | refine blk_drewN ?_ _ | refine blk_drew ?_ | refine blk_alloc ?_ _)); exact BK201.out) Try.underlying24 rfl (by kernel_rfl)) rfl ?_
   exact fi HB
 ·replace c4 := Bool.eq_false_iff.mpr c4
  subst c4
  rw [if_neg (show ¬ (false = true) by decide)] at H
  simp only [Option.some.injEq, Prod.mk.injEq] at H
  obtain ⟨rfl, rfl, rfl⟩ := H
  go_enter Try.func17, Try.ntmps17
  go_wp2_with (first | (refine bx 3 #[.int .i64 a1_0, .int .i64 a1_1] 24 ?_; intro gb200 hg w24 hbox hb; have n1_ := Aside0.mk (hbox); have GW200 := gw HB hg; have GE200 := gw HB hg; replace HB := bs HB hb; have BK200 := n1_; clear n1_; clear hb hbox hg) | (refine bx 4 #[.int .i64 0, .int .i64 0] 24 ?_; intro gb201 hg w25 hbox hb; have n2_ := Aside0.mk (hbox); have GW201 := gw HB hg; have GE201 := gw HB hg; have NB200_201 := nl BK200 hg; have NB201_200 := nr BK200 hg; replace BK200 := kb BK200 hb; replace HB := bs HB hb; have BK201 := n2_; clear n2_; clear hb hbox hg; have hnb26 := NB200_201.out; have hnc26 := NB201_200.out; have hcz27_0 := bc BK200 0; have hcz27_1 := bc BK200 1; have hfz27_0 := bf BK200 0; have hfz27_1 := bf BK200 1) | (refine gM (some 10) Try.func43 #[.slice A0 l0.length c0, .agg #[.int .i64 a1_0, .int .i64 a1_1]] (smear_right.calls k _ _ l0 a1_0 a1_1 false _ ?side1 ?side2 A3.out) ?_; (case side1 => exact cb HR0 HB); (case side2 => exact HC0.out); intro w28 hb; replace BK200 := kb BK200 hb; replace BK201 := kb BK201 hb; replace HB := bs HB hb; (try clear hb); have hcz29_0 := bc BK201 0; have hcz29_1 := bc BK201 1; have hfz29_0 := bf BK201 0; have hfz29_1 := bf BK201 1))
  refine bodyPost_ret (results_ct rfl _ _ gb201 24 #[.int .i64 0, .int .i64 0] (0, 0) _ rfl (by (with_reducible repeat (first | refine blk_drewN ?_ _ | refine blk_drew ?_ | refine blk_alloc ?_ _)); refine blk_put (cs := #[.int .i64 0, .int .i64 0]) ?_ 1 _ rfl; (with_reducible repeat (first | refine blk_drewN ?_ _ | refine blk_drew ?_ | refine blk_alloc ?_ _)); refine blk_put (cs := #[.int .i64 0, .int .i64 0]) ?_ 0 _ rfl; (with_reducible repeat (first | refine blk_drewN ?_ _ | refine blk_drew ?_ | refine blk_alloc ?_ _)); exact BK201.out) Try.underlying24 rfl (by kernel_rfl)) rfl ?_
  exact fi HB

/-! ### bits_Mul64: function 74 -/
-- by hand: wip/hand
def bits_Mul64.f (a0 : Int) (a1 : Int) : Option (Int × Int) := if 0 ≤ a0 ∧ a0 ≤ 18446744073709551615 ∧ 0 ≤ a1 ∧ a1 ≤ 18446744073709551615 then some (a0 * a1 / 18446744073709551616, a0 * a1 % 18446744073709551616) else none
theorem bits_Mul64.calls (a0 : Int) (a1 : Int) (r1 : Int) (r2 : Int) (w : World) (h : bits_Mul64.f a0 a1 = some (r1, r2)) :
  Calls Try.prog 74 #[.int .u64 a0, .int .u64 a1] w fun e w' => e = .returned (.tuple #[.int .u64 r1, .int .u64 r2]) ∧ Drawn0 w w' := by
 unfold bits_Mul64.f at h
 by_cases c : 0 ≤ a0 ∧ a0 ≤ 18446744073709551615 ∧ 0 ≤ a1 ∧ a1 ≤ 18446744073709551615
 ·rw [if_pos c] at h
  simp only [Option.some.injEq, Prod.mk.injEq] at h
  obtain ⟨rfl, rfl⟩ := h
  obtain ⟨c1, c2, c3, c4⟩ := c
  obtain ⟨x, rfl⟩ := Int.eq_ofNat_of_zero_le c1
  obtain ⟨y, rfl⟩ := Int.eq_ofNat_of_zero_le c3
  refine (Try.bits_Mul64 x y (by omega) (by omega) w).mono ?_
  rintro e w' ⟨he, rfl⟩
  exact ⟨by rw [he]; simp [Int.natCast_mul, Int.natCast_ediv, Int.natCast_emod], Drawn0.refl _⟩
 ·rw [if_neg c] at h; exact absurd h (by simp)

/-! ### bits_Len64: function 105 -/
-- by hand: wip/hand
def bits_Len64.f (a0 : Int) : Option (Int) := if 0 ≤ a0 ∧ a0 ≤ 18446744073709551615 then some ((Lib.bitLen a0.toNat : Int)) else none
theorem bits_Len64.calls (a0 : Int) (r : Int) (w : World) (h : bits_Len64.f a0 = some r) :
  Calls Try.prog 105 #[.int .u64 a0] w fun e w' => e = .returned (.int .i64 r) ∧ Drawn0 w w' := by
 unfold bits_Len64.f at h
 by_cases c : 0 ≤ a0 ∧ a0 ≤ 18446744073709551615
 ·rw [if_pos c] at h
  obtain rfl := Option.some.inj h
  refine (Try.bits_Len64 a0 w c.1 c.2).mono ?_
  rintro e w' ⟨he, rfl⟩
  exact ⟨he, Drawn0.refl _⟩
 ·rw [if_neg c] at h; exact absurd h (by simp)

/-! ### bits_LeadingZeros64: function 96 -/
-- by hand: wip/hand
def bits_LeadingZeros64.f (a0 : Int) : Option (Int) := if 0 ≤ a0 ∧ a0 ≤ 18446744073709551615 then some (64 - (Lib.bitLen a0.toNat : Int)) else none
theorem bits_LeadingZeros64.calls (a0 : Int) (r : Int) (w : World) (h : bits_LeadingZeros64.f a0 = some r) :
  Calls Try.prog 96 #[.int .u64 a0] w fun e w' => e = .returned (.int .i64 r) ∧ Drawn0 w w' := by
 unfold bits_LeadingZeros64.f at h
 by_cases c : 0 ≤ a0 ∧ a0 ≤ 18446744073709551615
 ·rw [if_pos c] at h
  obtain rfl := Option.some.inj h
  refine (Try.bits_LeadingZeros64 a0 w c.1 c.2).mono ?_
  rintro e w' ⟨he, rfl⟩
  exact ⟨he, Drawn0.refl _⟩
 ·rw [if_neg c] at h; exact absurd h (by simp)

end Go.Proofs.Ythoigncoojcanaa.PAll
