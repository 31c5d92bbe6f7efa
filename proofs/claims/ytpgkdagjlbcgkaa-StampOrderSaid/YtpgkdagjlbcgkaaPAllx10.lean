-- Written for this claim by wip/tools of this repo (after the kit's print; own contracts laid in).
import Derived.Test.YtpgkdagjlbcgkaaPAllx0
import Derived.Test.YtpgkdagjlbcgkaaPAllx1
import Derived.Test.YtpgkdagjlbcgkaaPAllx3
namespace Go.Proofs.Ytpgkdagjlbcgkaa.PAll
open Go.RowKit Go.Proofs.YtpgkdagjlbcgkaaW.PrintWords Go.Proofs.YtpgkdagjlbcgkaaW.PrintLast Go.Proofs.YtpgkdagjlbcgkaaW.PrintMore
attribute [local go_sem] max2_int min2_int max_two min_two max_three min_three max_four min_four   -- for this text's walks alone
set_option linter.unusedVariables false
set_option linter.unusedSimpArgs false

/-! ### epactlaw04_StampOrder: function 6 -/
theorem bytesLess_back : ∀ x y : List UInt8, (!(Op.bytesLess x y || x == y)) = Op.bytesLess y x
  | [], [] => rfl
  | [], _ :: _ => rfl
  | _ :: _, [] => rfl
  | a :: x, b :: y => by
    have ih := bytesLess_back x y
    simp only [Op.bytesLess, List.cons_beq_cons]
    rcases Nat.lt_trichotomy a.toNat b.toNat with h | h | h
    · have h1 : a < b := UInt8.lt_iff_toNat_lt.mpr h
      have h2 : ¬ b < a := fun q => by have := UInt8.lt_iff_toNat_lt.mp q; omega
      have h3 : (b == a) = false := by simp; intro e; subst e; omega
      simp [h1, h2, h3]
    · have e : a = b := UInt8.toNat_inj.mp h
      subst e
      rw [← ih]; simp
    · have h1 : b < a := UInt8.lt_iff_toNat_lt.mpr h
      have h2 : ¬ a < b := fun q => by have := UInt8.lt_iff_toNat_lt.mp q; omega
      have h3 : (a == b) = false := by simp; intro e; subst e; omega
      simp [h1, h2, h3]
theorem gtr_string (P : Program) (t : TypeId) (a b : ByteArray) (W : World) : (binOp .gtr t (.string a) (.string b)).run P W = .ok (.bool (Op.bytesLess b.toList a.toList)) W := by
  rw [← bytesLess_back]; simp [binOp, Op.stringOp]
def epactlaw04_StampOrder.f (k : Nat) (a0 : Int) (a1 : Int) (a2 : Int) (a3 : Int) : Option (Bool) := (epactlaw04_small.f k).bind fun t252 => ((stamp_Text.f k a0 a1).bind fun bt253 => ((stamp_Text.f k a2 a3).bind fun bt255 => (if bt253.2 = true then (if bt255.2 = true then (if a2 > a0 then (if t252 = true then (if ((Op.bytesLess bt253.1.toList bt255.1.toList) == true) = true then (if a2 = a0 then (some ((bt255.1.toList == bt253.1.toList) == (a1 == a3))) else (some ((bt255.1.toList == bt253.1.toList) == false))) else (none)) else (none)) else (if a2 = a0 then (if t252 = true then (if ((Op.bytesLess bt253.1.toList bt255.1.toList) == (decide (a3 > a1))) = true then (some ((bt255.1.toList == bt253.1.toList) == (a1 == a3))) else (none)) else (none)) else (if t252 = true then (if ((Op.bytesLess bt253.1.toList bt255.1.toList) == false) = true then (some ((bt255.1.toList == bt253.1.toList) == false)) else (none)) else (none)))) else (some t252)) else (some t252))))
theorem epactlaw04_StampOrder.mono : ∀ a0 a1 a2 a3 k, LeO (epactlaw04_StampOrder.f k a0 a1 a2 a3) (epactlaw04_StampOrder.f (k + 1) a0 a1 a2 a3) := by
  intro a0 a1 a2 a3 k
  unfold epactlaw04_StampOrder.f
  repeat' first
      | (with_reducible exact epactlaw04_small.mono _)
      | (with_reducible exact stamp_Text.mono _ _ _)
      | (with_reducible exact LeO.refl _)
      | (with_reducible exact LeO.none _)
      | (with_reducible refine LeO.ite ?_ ?_)
      | (with_reducible refine LeO.bind ?_ (fun _ => ?_))
      | exact epactlaw04_small.mono _
      | exact stamp_Text.mono _ _ _
      | exact LeO.none _
      | refine LeO.ite ?_ ?_
      | refine LeO.bind ?_ (fun _ => ?_)
set_option maxHeartbeats 8000000 in
set_option maxRecDepth 100000 in
theorem epactlaw04_StampOrder.calls (k : Nat) (a0 : Int) (a1 : Int) (a2 : Int) (a3 : Int) (r : Bool) (w : World) (h : epactlaw04_StampOrder.f k a0 a1 a2 a3 = some r) :
    Calls Try.prog 6 #[.int .i64 a0, .int .i64 a1, .int .i64 a2, .int .i64 a3] w fun e w' => e = .returned (.bool r) ∧ Below w.heap.size w w' := by
  have HB := Aside0.mk (Below.refl w.heap.size w)
  have H : ((epactlaw04_small.f k).bind fun t252 => ((stamp_Text.f k a0 a1).bind fun bt253 => ((stamp_Text.f k a2 a3).bind fun bt255 => (if bt253.2 = true then (if bt255.2 = true then (if a2 > a0 then (if t252 = true then (if ((Op.bytesLess bt253.1.toList bt255.1.toList) == true) = true then (if a2 = a0 then (some ((bt255.1.toList == bt253.1.toList) == (a1 == a3))) else (some ((bt255.1.toList == bt253.1.toList) == false))) else (none)) else (none)) else (if a2 = a0 then (if t252 = true then (if ((Op.bytesLess bt253.1.toList bt255.1.toList) == (decide (a3 > a1))) = true then (some ((bt255.1.toList == bt253.1.toList) == (a1 == a3))) else (none)) else (none)) else (if t252 = true then (if ((Op.bytesLess bt253.1.toList bt255.1.toList) == false) = true then (some ((bt255.1.toList == bt253.1.toList) == false)) else (none)) else (none)))) else (some t252)) else (some t252))))) = some r := h
  clear h
  replace H := Option.bind_eq_some_iff.mp H
  obtain ⟨t252, A50, H⟩ := H
  replace H : ((stamp_Text.f k a0 a1).bind fun bt253 => ((stamp_Text.f k a2 a3).bind fun bt255 => (if bt253.2 = true then (if bt255.2 = true then (if a2 > a0 then (if t252 = true then (if ((Op.bytesLess bt253.1.toList bt255.1.toList) == true) = true then (if a2 = a0 then (some ((bt255.1.toList == bt253.1.toList) == (a1 == a3))) else (some ((bt255.1.toList == bt253.1.toList) == false))) else (none)) else (none)) else (if a2 = a0 then (if t252 = true then (if ((Op.bytesLess bt253.1.toList bt255.1.toList) == (decide (a3 > a1))) = true then (some ((bt255.1.toList == bt253.1.toList) == (a1 == a3))) else (none)) else (none)) else (if t252 = true then (if ((Op.bytesLess bt253.1.toList bt255.1.toList) == false) = true then (some ((bt255.1.toList == bt253.1.toList) == false)) else (none)) else (none)))) else (some t252)) else (some t252)))) = some r := H
  have A5 := Aside0.mk A50
  clear A50
  replace H := Option.bind_eq_some_iff.mp H
  obtain ⟨⟨t253, t254⟩, A60, H⟩ := H
  replace H : ((stamp_Text.f k a2 a3).bind fun bt255 => (if t254 = true then (if bt255.2 = true then (if a2 > a0 then (if t252 = true then (if ((Op.bytesLess t253.toList bt255.1.toList) == true) = true then (if a2 = a0 then (some ((bt255.1.toList == t253.toList) == (a1 == a3))) else (some ((bt255.1.toList == t253.toList) == false))) else (none)) else (none)) else (if a2 = a0 then (if t252 = true then (if ((Op.bytesLess t253.toList bt255.1.toList) == (decide (a3 > a1))) = true then (some ((bt255.1.toList == t253.toList) == (a1 == a3))) else (none)) else (none)) else (if t252 = true then (if ((Op.bytesLess t253.toList bt255.1.toList) == false) = true then (some ((bt255.1.toList == t253.toList) == false)) else (none)) else (none)))) else (some t252)) else (some t252))) = some r := H
  have A6 := Aside0.mk A60
  clear A60
  replace H := Option.bind_eq_some_iff.mp H
  obtain ⟨⟨t255, t256⟩, A70, H⟩ := H
  replace H : (if t254 = true then (if t256 = true then (if a2 > a0 then (if t252 = true then (if ((Op.bytesLess t253.toList t255.toList) == true) = true then (if a2 = a0 then (some ((t255.toList == t253.toList) == (a1 == a3))) else (some ((t255.toList == t253.toList) == false))) else (none)) else (none)) else (if a2 = a0 then (if t252 = true then (if ((Op.bytesLess t253.toList t255.toList) == (decide (a3 > a1))) = true then (some ((t255.toList == t253.toList) == (a1 == a3))) else (none)) else (none)) else (if t252 = true then (if ((Op.bytesLess t253.toList t255.toList) == false) = true then (some ((t255.toList == t253.toList) == false)) else (none)) else (none)))) else (some t252)) else (some t252)) = some r := H
  have A7 := Aside0.mk A70
  clear A70
  by_cases c8 : t254 = true
  · subst c8
    have H1 : (if t256 = true then (if a2 > a0 then (if t252 = true then (if ((Op.bytesLess t253.toList t255.toList) == true) = true then (if a2 = a0 then (some ((t255.toList == t253.toList) == (a1 == a3))) else (some ((t255.toList == t253.toList) == false))) else (none)) else (none)) else (if a2 = a0 then (if t252 = true then (if ((Op.bytesLess t253.toList t255.toList) == (decide (a3 > a1))) = true then (some ((t255.toList == t253.toList) == (a1 == a3))) else (none)) else (none)) else (if t252 = true then (if ((Op.bytesLess t253.toList t255.toList) == false) = true then (some ((t255.toList == t253.toList) == false)) else (none)) else (none)))) else (some t252)) = some r := by rw [if_pos rfl] at H; exact H
    clear H
    have H := H1
    clear H1
    by_cases c9 : t256 = true
    · subst c9
      have H1 : (if a2 > a0 then (if t252 = true then (if ((Op.bytesLess t253.toList t255.toList) == true) = true then (if a2 = a0 then (some ((t255.toList == t253.toList) == (a1 == a3))) else (some ((t255.toList == t253.toList) == false))) else (none)) else (none)) else (if a2 = a0 then (if t252 = true then (if ((Op.bytesLess t253.toList t255.toList) == (decide (a3 > a1))) = true then (some ((t255.toList == t253.toList) == (a1 == a3))) else (none)) else (none)) else (if t252 = true then (if ((Op.bytesLess t253.toList t255.toList) == false) = true then (some ((t255.toList == t253.toList) == false)) else (none)) else (none)))) = some r := by rw [if_pos rfl] at H; exact H
      clear H
      have H := H1
      clear H1
      by_cases c10 : a2 > a0
      · rw [if_pos c10] at H
        have c10b0 : decide (a0 < a2) = true := decide_eq_true c10
        clear c10
        by_cases c11 : t252 = true
        · subst c11
          have H1 : (if ((Op.bytesLess t253.toList t255.toList) == true) = true then (if a2 = a0 then (some ((t255.toList == t253.toList) == (a1 == a3))) else (some ((t255.toList == t253.toList) == false))) else (none)) = some r := by rw [if_pos rfl] at H; exact H
          clear H
          have H := H1
          clear H1
          by_cases c12 : ((Op.bytesLess t253.toList t255.toList) == true) = true
          · rw [if_pos c12] at H
            have c12b0 : ((Op.bytesLess t253.toList t255.toList) == true) = true := c12
            (try (have c12b1 : decide ((Op.bytesLess t253.toList t255.toList) = true) = true := by first | (simp; done) | (simp at c12; done) | simpa using c12))
            (try (have c12b2 : ((Op.bytesLess t253.toList t255.toList) == true) = true := by first | (simp; done) | (simp at c12; done) | simpa using c12))
            clear c12
            by_cases c13 : a2 = a0
            · rw [if_pos c13] at H
              have c13b0 : (a2 == a0) = true := beq_iff_eq.mpr c13
              have c13b1 : (a2 != a0) = false := bne_eq_false_iff_eq.mpr c13
              clear c13
              obtain rfl := Option.some.inj H
              go_enter Try.func6, Try.ntmps6
              try have hgt_ := fun (W_ : World) => gtr_string Try.prog 9 t255 t253 W_
              go_wp2_with (first | ((with_reducible refine gate_callee (f := 8) rfl ?_); refine goesL_ (some 15) rfl rfl Try.func8 (by kernel_rfl) rfl #[] rfl (by (try simp only [List.map_toArray, List.map_cons, List.map_nil]); first | done | rfl | (simp only [List.length_drop, List.length_take]; rfl)) ?_; (with_reducible refine (epactlaw04_small.calls k  true _ A5.out).mono ?_); rintro e w14 ⟨rfl, hb⟩; refine ⟨_, rfl, ?_⟩; have n0_ := Aside0.mk (below_step (by repeat (first | (with_reducible first | exact HB.out | apply below_alloc | apply pw_below_drewN | apply below_drew1) | exact HB.out)) hb); clear HB; have HB := n0_; clear n0_; (try clear hb); (try clear hb2); (try clear hk); (try clear hi)) | ((with_reducible refine gate_callee (f := 13) rfl ?_); refine goesL_ (some 19) rfl rfl Try.func13 (by kernel_rfl) rfl #[.int .i64 a0, .int .i64 a1] rfl (by (try simp only [List.map_toArray, List.map_cons, List.map_nil]); first | done | rfl | (simp only [List.length_drop, List.length_take]; rfl)) ?_; (with_reducible refine (stamp_Text.calls k a0 a1 t253 true _ A6.out).mono ?_); rintro e w15 ⟨rfl, hb⟩; refine ⟨_, rfl, ?_⟩; have n0_ := Aside0.mk (below_step (by repeat (first | (with_reducible first | exact HB.out | apply below_alloc | apply pw_below_drewN | apply below_drew1) | exact HB.out)) hb); clear HB; have HB := n0_; clear n0_; (try clear hb); (try clear hb2); (try clear hk); (try clear hi)) | ((with_reducible refine gate_callee (f := 13) rfl ?_); refine goesL_ (some 25) rfl rfl Try.func13 (by kernel_rfl) rfl #[.int .i64 a2, .int .i64 a3] rfl (by (try simp only [List.map_toArray, List.map_cons, List.map_nil]); first | done | rfl | (simp only [List.length_drop, List.length_take]; rfl)) ?_; (with_reducible refine (stamp_Text.calls k a2 a3 t255 true _ A7.out).mono ?_); rintro e w16 ⟨rfl, hb⟩; refine ⟨_, rfl, ?_⟩; have n0_ := Aside0.mk (below_step (by repeat (first | (with_reducible first | exact HB.out | apply below_alloc | apply pw_below_drewN | apply below_drew1) | exact HB.out)) hb); clear HB; have HB := n0_; clear n0_; (try clear hb); (try clear hb2); (try clear hk); (try clear hi)))
              go_ret
              exact ⟨by first | rfl | (simp [errW_none, errW_some] <;> rfl) | (simp [*, errW_none, errW_some] <;> rfl), by repeat (first | (with_reducible first | exact HB.out | apply below_alloc | apply pw_below_drewN | apply below_drew1) | exact HB.out)⟩
            · rw [if_neg c13] at H
              have c13b0 : (a2 == a0) = false := beq_eq_false_iff_ne.mpr c13
              have c13b1 : (a2 != a0) = true := bne_iff_ne.mpr c13
              obtain rfl := Option.some.inj H
              go_enter Try.func6, Try.ntmps6
              try have hgt_ := fun (W_ : World) => gtr_string Try.prog 9 t255 t253 W_
              go_wp2_with (first | ((with_reducible refine gate_callee (f := 8) rfl ?_); refine goesL_ (some 15) rfl rfl Try.func8 (by kernel_rfl) rfl #[] rfl (by (try simp only [List.map_toArray, List.map_cons, List.map_nil]); first | done | rfl | (simp only [List.length_drop, List.length_take]; rfl)) ?_; (with_reducible refine (epactlaw04_small.calls k  true _ A5.out).mono ?_); rintro e w17 ⟨rfl, hb⟩; refine ⟨_, rfl, ?_⟩; have n0_ := Aside0.mk (below_step (by repeat (first | (with_reducible first | exact HB.out | apply below_alloc | apply pw_below_drewN | apply below_drew1) | exact HB.out)) hb); clear HB; have HB := n0_; clear n0_; (try clear hb); (try clear hb2); (try clear hk); (try clear hi)) | ((with_reducible refine gate_callee (f := 13) rfl ?_); refine goesL_ (some 19) rfl rfl Try.func13 (by kernel_rfl) rfl #[.int .i64 a0, .int .i64 a1] rfl (by (try simp only [List.map_toArray, List.map_cons, List.map_nil]); first | done | rfl | (simp only [List.length_drop, List.length_take]; rfl)) ?_; (with_reducible refine (stamp_Text.calls k a0 a1 t253 true _ A6.out).mono ?_); rintro e w18 ⟨rfl, hb⟩; refine ⟨_, rfl, ?_⟩; have n0_ := Aside0.mk (below_step (by repeat (first | (with_reducible first | exact HB.out | apply below_alloc | apply pw_below_drewN | apply below_drew1) | exact HB.out)) hb); clear HB; have HB := n0_; clear n0_; (try clear hb); (try clear hb2); (try clear hk); (try clear hi)) | ((with_reducible refine gate_callee (f := 13) rfl ?_); refine goesL_ (some 25) rfl rfl Try.func13 (by kernel_rfl) rfl #[.int .i64 a2, .int .i64 a3] rfl (by (try simp only [List.map_toArray, List.map_cons, List.map_nil]); first | done | rfl | (simp only [List.length_drop, List.length_take]; rfl)) ?_; (with_reducible refine (stamp_Text.calls k a2 a3 t255 true _ A7.out).mono ?_); rintro e w19 ⟨rfl, hb⟩; refine ⟨_, rfl, ?_⟩; have n0_ := Aside0.mk (below_step (by repeat (first | (with_reducible first | exact HB.out | apply below_alloc | apply pw_below_drewN | apply below_drew1) | exact HB.out)) hb); clear HB; have HB := n0_; clear n0_; (try clear hb); (try clear hb2); (try clear hk); (try clear hi)))
              go_ret
              exact ⟨by first | rfl | (simp [errW_none, errW_some] <;> rfl) | (simp [*, errW_none, errW_some] <;> rfl), by repeat (first | (with_reducible first | exact HB.out | apply below_alloc | apply pw_below_drewN | apply below_drew1) | exact HB.out)⟩
          · rw [if_neg c12] at H
            exact absurd H (by simp)
        · replace c11 := Bool.eq_false_iff.mpr c11
          subst c11
          have H1 : (none) = some r := by rw [if_neg (show ¬ (false = true) by decide)] at H; exact H
          clear H
          have H := H1
          clear H1
          exact absurd H (by simp)
      · rw [if_neg c10] at H
        have c10b0 : decide (a0 < a2) = false := decide_eq_false c10
        clear c10
        by_cases c20 : a2 = a0
        · rw [if_pos c20] at H
          have c20b0 : (a2 == a0) = true := beq_iff_eq.mpr c20
          have c20b1 : (a2 != a0) = false := bne_eq_false_iff_eq.mpr c20
          clear c20
          by_cases c21 : t252 = true
          · subst c21
            have H1 : (if ((Op.bytesLess t253.toList t255.toList) == (decide (a3 > a1))) = true then (some ((t255.toList == t253.toList) == (a1 == a3))) else (none)) = some r := by rw [if_pos rfl] at H; exact H
            clear H
            have H := H1
            clear H1
            by_cases c22 : ((Op.bytesLess t253.toList t255.toList) == (decide (a3 > a1))) = true
            · rw [if_pos c22] at H
              have c22b0 : ((Op.bytesLess t253.toList t255.toList) == (decide (a3 > a1))) = true := c22
              (try (have c22b1 : decide ((Op.bytesLess t253.toList t255.toList) = (decide (a3 > a1))) = true := by first | (simp; done) | (simp at c22; done) | simpa using c22))
              (try (have c22b2 : ((Op.bytesLess t253.toList t255.toList) == (decide (a3 > a1))) = true := by first | (simp; done) | (simp at c22; done) | simpa using c22))
              clear c22
              obtain rfl := Option.some.inj H
              go_enter Try.func6, Try.ntmps6
              try have hgt_ := fun (W_ : World) => gtr_string Try.prog 9 t255 t253 W_
              go_wp2_with (first | ((with_reducible refine gate_callee (f := 8) rfl ?_); refine goesL_ (some 15) rfl rfl Try.func8 (by kernel_rfl) rfl #[] rfl (by (try simp only [List.map_toArray, List.map_cons, List.map_nil]); first | done | rfl | (simp only [List.length_drop, List.length_take]; rfl)) ?_; (with_reducible refine (epactlaw04_small.calls k  true _ A5.out).mono ?_); rintro e w23 ⟨rfl, hb⟩; refine ⟨_, rfl, ?_⟩; have n0_ := Aside0.mk (below_step (by repeat (first | (with_reducible first | exact HB.out | apply below_alloc | apply pw_below_drewN | apply below_drew1) | exact HB.out)) hb); clear HB; have HB := n0_; clear n0_; (try clear hb); (try clear hb2); (try clear hk); (try clear hi)) | ((with_reducible refine gate_callee (f := 13) rfl ?_); refine goesL_ (some 19) rfl rfl Try.func13 (by kernel_rfl) rfl #[.int .i64 a0, .int .i64 a1] rfl (by (try simp only [List.map_toArray, List.map_cons, List.map_nil]); first | done | rfl | (simp only [List.length_drop, List.length_take]; rfl)) ?_; (with_reducible refine (stamp_Text.calls k a0 a1 t253 true _ A6.out).mono ?_); rintro e w24 ⟨rfl, hb⟩; refine ⟨_, rfl, ?_⟩; have n0_ := Aside0.mk (below_step (by repeat (first | (with_reducible first | exact HB.out | apply below_alloc | apply pw_below_drewN | apply below_drew1) | exact HB.out)) hb); clear HB; have HB := n0_; clear n0_; (try clear hb); (try clear hb2); (try clear hk); (try clear hi)) | ((with_reducible refine gate_callee (f := 13) rfl ?_); refine goesL_ (some 25) rfl rfl Try.func13 (by kernel_rfl) rfl #[.int .i64 a2, .int .i64 a3] rfl (by (try simp only [List.map_toArray, List.map_cons, List.map_nil]); first | done | rfl | (simp only [List.length_drop, List.length_take]; rfl)) ?_; (with_reducible refine (stamp_Text.calls k a2 a3 t255 true _ A7.out).mono ?_); rintro e w25 ⟨rfl, hb⟩; refine ⟨_, rfl, ?_⟩; have n0_ := Aside0.mk (below_step (by repeat (first | (with_reducible first | exact HB.out | apply below_alloc | apply pw_below_drewN | apply below_drew1) | exact HB.out)) hb); clear HB; have HB := n0_; clear n0_; (try clear hb); (try clear hb2); (try clear hk); (try clear hi)))
              go_ret
              exact ⟨by first | rfl | (simp [errW_none, errW_some] <;> rfl) | (simp [*, errW_none, errW_some] <;> rfl), by repeat (first | (with_reducible first | exact HB.out | apply below_alloc | apply pw_below_drewN | apply below_drew1) | exact HB.out)⟩
            · rw [if_neg c22] at H
              exact absurd H (by simp)
          · replace c21 := Bool.eq_false_iff.mpr c21
            subst c21
            have H1 : (none) = some r := by rw [if_neg (show ¬ (false = true) by decide)] at H; exact H
            clear H
            have H := H1
            clear H1
            exact absurd H (by simp)
        · rw [if_neg c20] at H
          have c20b0 : (a2 == a0) = false := beq_eq_false_iff_ne.mpr c20
          have c20b1 : (a2 != a0) = true := bne_iff_ne.mpr c20
          by_cases c26 : t252 = true
          · subst c26
            have H1 : (if ((Op.bytesLess t253.toList t255.toList) == false) = true then (some ((t255.toList == t253.toList) == false)) else (none)) = some r := by rw [if_pos rfl] at H; exact H
            clear H
            have H := H1
            clear H1
            by_cases c27 : ((Op.bytesLess t253.toList t255.toList) == false) = true
            · rw [if_pos c27] at H
              have c27b0 : ((Op.bytesLess t253.toList t255.toList) == false) = true := c27
              (try (have c27b1 : decide ((Op.bytesLess t253.toList t255.toList) = false) = true := by first | (simp; done) | (simp at c27; done) | simpa using c27))
              (try (have c27b2 : ((Op.bytesLess t253.toList t255.toList) == false) = true := by first | (simp; done) | (simp at c27; done) | simpa using c27))
              clear c27
              obtain rfl := Option.some.inj H
              go_enter Try.func6, Try.ntmps6
              try have hgt_ := fun (W_ : World) => gtr_string Try.prog 9 t255 t253 W_
              go_wp2_with (first | ((with_reducible refine gate_callee (f := 8) rfl ?_); refine goesL_ (some 15) rfl rfl Try.func8 (by kernel_rfl) rfl #[] rfl (by (try simp only [List.map_toArray, List.map_cons, List.map_nil]); first | done | rfl | (simp only [List.length_drop, List.length_take]; rfl)) ?_; (with_reducible refine (epactlaw04_small.calls k  true _ A5.out).mono ?_); rintro e w28 ⟨rfl, hb⟩; refine ⟨_, rfl, ?_⟩; have n0_ := Aside0.mk (below_step (by repeat (first | (with_reducible first | exact HB.out | apply below_alloc | apply pw_below_drewN | apply below_drew1) | exact HB.out)) hb); clear HB; have HB := n0_; clear n0_; (try clear hb); (try clear hb2); (try clear hk); (try clear hi)) | ((with_reducible refine gate_callee (f := 13) rfl ?_); refine goesL_ (some 19) rfl rfl Try.func13 (by kernel_rfl) rfl #[.int .i64 a0, .int .i64 a1] rfl (by (try simp only [List.map_toArray, List.map_cons, List.map_nil]); first | done | rfl | (simp only [List.length_drop, List.length_take]; rfl)) ?_; (with_reducible refine (stamp_Text.calls k a0 a1 t253 true _ A6.out).mono ?_); rintro e w29 ⟨rfl, hb⟩; refine ⟨_, rfl, ?_⟩; have n0_ := Aside0.mk (below_step (by repeat (first | (with_reducible first | exact HB.out | apply below_alloc | apply pw_below_drewN | apply below_drew1) | exact HB.out)) hb); clear HB; have HB := n0_; clear n0_; (try clear hb); (try clear hb2); (try clear hk); (try clear hi)) | ((with_reducible refine gate_callee (f := 13) rfl ?_); refine goesL_ (some 25) rfl rfl Try.func13 (by kernel_rfl) rfl #[.int .i64 a2, .int .i64 a3] rfl (by (try simp only [List.map_toArray, List.map_cons, List.map_nil]); first | done | rfl | (simp only [List.length_drop, List.length_take]; rfl)) ?_; (with_reducible refine (stamp_Text.calls k a2 a3 t255 true _ A7.out).mono ?_); rintro e w30 ⟨rfl, hb⟩; refine ⟨_, rfl, ?_⟩; have n0_ := Aside0.mk (below_step (by repeat (first | (with_reducible first | exact HB.out | apply below_alloc | apply pw_below_drewN | apply below_drew1) | exact HB.out)) hb); clear HB; have HB := n0_; clear n0_; (try clear hb); (try clear hb2); (try clear hk); (try clear hi)))
              go_ret
              exact ⟨by first | rfl | (simp [errW_none, errW_some] <;> rfl) | (simp [*, errW_none, errW_some] <;> rfl), by repeat (first | (with_reducible first | exact HB.out | apply below_alloc | apply pw_below_drewN | apply below_drew1) | exact HB.out)⟩
            · rw [if_neg c27] at H
              exact absurd H (by simp)
          · replace c26 := Bool.eq_false_iff.mpr c26
            subst c26
            have H1 : (none) = some r := by rw [if_neg (show ¬ (false = true) by decide)] at H; exact H
            clear H
            have H := H1
            clear H1
            exact absurd H (by simp)
    · replace c9 := Bool.eq_false_iff.mpr c9
      subst c9
      have H1 : (some t252) = some r := by rw [if_neg (show ¬ (false = true) by decide)] at H; exact H
      clear H
      have H := H1
      clear H1
      obtain rfl := Option.some.inj H
      go_enter Try.func6, Try.ntmps6
      try have hgt_ := fun (W_ : World) => gtr_string Try.prog 9 t255 t253 W_
      go_wp2_with (first | ((with_reducible refine gate_callee (f := 8) rfl ?_); refine goesL_ (some 15) rfl rfl Try.func8 (by kernel_rfl) rfl #[] rfl (by (try simp only [List.map_toArray, List.map_cons, List.map_nil]); first | done | rfl | (simp only [List.length_drop, List.length_take]; rfl)) ?_; (with_reducible refine (epactlaw04_small.calls k  t252 _ A5.out).mono ?_); rintro e w31 ⟨rfl, hb⟩; refine ⟨_, rfl, ?_⟩; have n0_ := Aside0.mk (below_step (by repeat (first | (with_reducible first | exact HB.out | apply below_alloc | apply pw_below_drewN | apply below_drew1) | exact HB.out)) hb); clear HB; have HB := n0_; clear n0_; (try clear hb); (try clear hb2); (try clear hk); (try clear hi)) | ((with_reducible refine gate_callee (f := 13) rfl ?_); refine goesL_ (some 19) rfl rfl Try.func13 (by kernel_rfl) rfl #[.int .i64 a0, .int .i64 a1] rfl (by (try simp only [List.map_toArray, List.map_cons, List.map_nil]); first | done | rfl | (simp only [List.length_drop, List.length_take]; rfl)) ?_; (with_reducible refine (stamp_Text.calls k a0 a1 t253 true _ A6.out).mono ?_); rintro e w32 ⟨rfl, hb⟩; refine ⟨_, rfl, ?_⟩; have n0_ := Aside0.mk (below_step (by repeat (first | (with_reducible first | exact HB.out | apply below_alloc | apply pw_below_drewN | apply below_drew1) | exact HB.out)) hb); clear HB; have HB := n0_; clear n0_; (try clear hb); (try clear hb2); (try clear hk); (try clear hi)) | ((with_reducible refine gate_callee (f := 13) rfl ?_); refine goesL_ (some 25) rfl rfl Try.func13 (by kernel_rfl) rfl #[.int .i64 a2, .int .i64 a3] rfl (by (try simp only [List.map_toArray, List.map_cons, List.map_nil]); first | done | rfl | (simp only [List.length_drop, List.length_take]; rfl)) ?_; (with_reducible refine (stamp_Text.calls k a2 a3 t255 false _ A7.out).mono ?_); rintro e w33 ⟨rfl, hb⟩; refine ⟨_, rfl, ?_⟩; have n0_ := Aside0.mk (below_step (by repeat (first | (with_reducible first | exact HB.out | apply below_alloc | apply pw_below_drewN | apply below_drew1) | exact HB.out)) hb); clear HB; have HB := n0_; clear n0_; (try clear hb); (try clear hb2); (try clear hk); (try clear hi)))
      go_ret
      exact ⟨by first | rfl | (simp [errW_none, errW_some] <;> rfl) | (simp [*, errW_none, errW_some] <;> rfl), by repeat (first | (with_reducible first | exact HB.out | apply below_alloc | apply pw_below_drewN | apply below_drew1) | exact HB.out)⟩
  · replace c8 := Bool.eq_false_iff.mpr c8
    subst c8
    have H1 : (some t252) = some r := by rw [if_neg (show ¬ (false = true) by decide)] at H; exact H
    clear H
    have H := H1
    clear H1
    obtain rfl := Option.some.inj H
    go_enter Try.func6, Try.ntmps6
    try have hgt_ := fun (W_ : World) => gtr_string Try.prog 9 t255 t253 W_
    go_wp2_with (first | ((with_reducible refine gate_callee (f := 8) rfl ?_); refine goesL_ (some 15) rfl rfl Try.func8 (by kernel_rfl) rfl #[] rfl (by (try simp only [List.map_toArray, List.map_cons, List.map_nil]); first | done | rfl | (simp only [List.length_drop, List.length_take]; rfl)) ?_; (with_reducible refine (epactlaw04_small.calls k  t252 _ A5.out).mono ?_); rintro e w34 ⟨rfl, hb⟩; refine ⟨_, rfl, ?_⟩; have n0_ := Aside0.mk (below_step (by repeat (first | (with_reducible first | exact HB.out | apply below_alloc | apply pw_below_drewN | apply below_drew1) | exact HB.out)) hb); clear HB; have HB := n0_; clear n0_; (try clear hb); (try clear hb2); (try clear hk); (try clear hi)) | ((with_reducible refine gate_callee (f := 13) rfl ?_); refine goesL_ (some 19) rfl rfl Try.func13 (by kernel_rfl) rfl #[.int .i64 a0, .int .i64 a1] rfl (by (try simp only [List.map_toArray, List.map_cons, List.map_nil]); first | done | rfl | (simp only [List.length_drop, List.length_take]; rfl)) ?_; (with_reducible refine (stamp_Text.calls k a0 a1 t253 false _ A6.out).mono ?_); rintro e w35 ⟨rfl, hb⟩; refine ⟨_, rfl, ?_⟩; have n0_ := Aside0.mk (below_step (by repeat (first | (with_reducible first | exact HB.out | apply below_alloc | apply pw_below_drewN | apply below_drew1) | exact HB.out)) hb); clear HB; have HB := n0_; clear n0_; (try clear hb); (try clear hb2); (try clear hk); (try clear hi)) | ((with_reducible refine gate_callee (f := 13) rfl ?_); refine goesL_ (some 25) rfl rfl Try.func13 (by kernel_rfl) rfl #[.int .i64 a2, .int .i64 a3] rfl (by (try simp only [List.map_toArray, List.map_cons, List.map_nil]); first | done | rfl | (simp only [List.length_drop, List.length_take]; rfl)) ?_; (with_reducible refine (stamp_Text.calls k a2 a3 t255 t256 _ A7.out).mono ?_); rintro e w36 ⟨rfl, hb⟩; refine ⟨_, rfl, ?_⟩; have n0_ := Aside0.mk (below_step (by repeat (first | (with_reducible first | exact HB.out | apply below_alloc | apply pw_below_drewN | apply below_drew1) | exact HB.out)) hb); clear HB; have HB := n0_; clear n0_; (try clear hb); (try clear hb2); (try clear hk); (try clear hi)))
    go_ret
    exact ⟨by first | rfl | (simp [errW_none, errW_some] <;> rfl) | (simp [*, errW_none, errW_some] <;> rfl), by repeat (first | (with_reducible first | exact HB.out | apply below_alloc | apply pw_below_drewN | apply below_drew1) | exact HB.out)⟩

/-- THE ONE PURE STATEMENT of epactlaw04_StampOrder: yours. -/
def epactlaw04_StampOrder.Pure : Prop := ∀ (a0 : Int) (a1 : Int) (a2 : Int) (a3 : Int), (Lit.int .i64 a0).wf = true → (Lit.int .i64 a1).wf = true → (Lit.int .i64 a2).wf = true → (Lit.int .i64 a3).wf = true → ∃ k, epactlaw04_StampOrder.f k a0 a1 a2 a3 = some true
theorem epactlaw04_StampOrder.walk (P : epactlaw04_StampOrder.Pure) (a0 : Int) (a1 : Int) (a2 : Int) (a3 : Int) (w : World) (w0 : (Lit.int .i64 a0).wf = true) (w1 : (Lit.int .i64 a1).wf = true) (w2 : (Lit.int .i64 a2).wf = true) (w3 : (Lit.int .i64 a3).wf = true) :
    Calls Try.prog 6 #[.int .i64 a0, .int .i64 a1, .int .i64 a2, .int .i64 a3] w fun e w' => e = .returned (.bool true) ∧ Below w.heap.size w w' := by
  obtain ⟨k, h⟩ := P a0 a1 a2 a3 w0 w1 w2 w3
  refine (epactlaw04_StampOrder.calls k a0 a1 a2 a3 true w h).mono ?_
  rintro e w' ⟨rfl, hd⟩
  exact ⟨rfl, hd⟩

end Go.Proofs.Ytpgkdagjlbcgkaa.PAll
