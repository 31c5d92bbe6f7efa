-- Written for this claim by wip/tools of this repo (after the kit's print; own contracts laid in).
import Derived.Test.YthoigncoojcanaaPAllx0
import Derived.Test.YthoigncoojcanaaShort
import Derived.Test.YthoigncoojcanaaPAllx19
import Derived.Test.YthoigncoojcanaaPAllx22
namespace Go.Proofs.Ythoigncoojcanaa.PAll
open Go.RowKit Go.Proofs.YthoigncoojcanaaW.PrintWords Go.Proofs.YthoigncoojcanaaW.PrintLast Go.Proofs.YthoigncoojcanaaW.PrintMore
attribute [local go_sem] max2_int min2_int max_two min_two max_three min_three max_four min_four   -- for this text's walks alone
set_option linter.unusedVariables false
set_option linter.unusedSimpArgs false

/-! ### epactref09_Length: function 72 -/
def epactref09_Length.f (k : Nat) (l0_0 : List (S49)) (a0_1 : Bool) (a0_2 : Int) (a1 : Int) : Option (Int) := (epactref09_Step.f k l0_0 a0_1 a0_2 a1).bind fun t535 => (some (wrap64 (86400 + t535)))
theorem epactref09_Length.mono : ∀ a0 a1 a2 a3 k, LeO (epactref09_Length.f k a0 a1 a2 a3) (epactref09_Length.f (k + 1) a0 a1 a2 a3) := by
 intro a0 a1 a2 a3 k
 unfold epactref09_Length.f
 repeat' first
   | (with_reducible exact epactref09_Step.mono _ _ _ _ _)
   | (with_reducible exact LeO.refl _)
   | (with_reducible exact LeO.none _)
   | (with_reducible refine LeO.ite ?_ ?_)
   | (with_reducible refine LeO.bind ?_ (fun _ => ?_))
set_option maxHeartbeats 8000000 in
set_option maxRecDepth 100000 in
theorem epactref09_Length.calls (k : Nat) (A0_0 : Option Addr) (c0_0 : Nat) (l0_0 : List (S49)) (a0_1 : Bool) (a0_2 : Int) (a1 : Int) (r : Int) (w : World) (hr0_0 : Kd.C k49 w A0_0 l0_0.length l0_0) (hc0_0 : l0_0.length ≤ c0_0) (h : epactref09_Length.f k l0_0 a0_1 a0_2 a1 = some r) :
  Calls Try.prog 72 #[.agg #[.slice A0_0 l0_0.length c0_0, .bool a0_1, .int .i64 a0_2], .int .i64 a1] w fun e w' => e = .returned (.int .i64 r) ∧ Below w.heap.size w w' := by
 have hu44 := Try.underlying44
 have HR0_0 := Aside0.mk hr0_0
 have HC0_0 := Aside0.mk hc0_0
 clear hr0_0 hc0_0
 have HB := Aside0.mk (Below.refl w.heap.size w)
 have H : ((epactref09_Step.f k l0_0 a0_1 a0_2 a1).bind fun t535 => (some (wrap64 (86400 + t535)))) = some r := h
 clear h
 obtain ⟨t535, A3, H⟩ := bnd H
 try dsimp only at H
 obtain rfl := Option.some.inj H
 go_enter Try.func72, Try.ntmps72
 go_wp2_with (first | (refine bx 2 #[.slice A0_0 l0_0.length c0_0, .bool a0_1, .int .i64 a0_2] 44 ?_; intro gb534 hg w4 hbox hb; have n1_ := Aside0.mk (hbox); have GW534 := gw HB hg; have GE534 := gw HB hg; replace HB := bs HB hb; have BK534 := n1_; clear n1_; clear hb hbox hg; have hcz5_0 := bc BK534 0; have hcz5_1 := bc BK534 1; have hcz5_2 := bc BK534 2; have hfz5_0 := bf BK534 0; have hfz5_1 := bf BK534 1; have hfz5_2 := bf BK534 2) | (refine gM (some 7) Try.func94 #[.agg #[.slice A0_0 l0_0.length c0_0, .bool a0_1, .int .i64 a0_2], .int .i64 a1] (epactref09_Step.calls k _ _ l0_0 a0_1 a0_2 a1 t535 _ ?side1 ?side2 A3.out) ?_; (case side1 => exact cb HR0_0 HB); (case side2 => exact HC0_0.out); intro w6 hb; replace BK534 := kb BK534 hb; replace HB := bs HB hb; (try clear hb)))
 go_ret
 exact fi HB

/-! ### epactref12_Expiry: function 95 -/
def epactref12_Expiry.f (l0 : List (S53)) : Option (Int × Bool) := (epactref12_leaps.f l0).bind fun t536 => (if t536 = (l0.length : Int) then (some (0, false)) else (if 0 ≤ t536 then (if t536 < (l0.length : Int) then (some ((rd_T53 l0 t536).f0, true)) else (none)) else (none)))
set_option maxHeartbeats 8000000 in
set_option maxRecDepth 100000 in
theorem epactref12_Expiry.calls (A0 : Option Addr) (c0 : Nat) (l0 : List (S53)) (r1 : Int) (r2 : Bool) (w : World) (hr0 : Kd.C k53 w A0 l0.length l0) (hc0 : l0.length ≤ c0) (h : epactref12_Expiry.f l0 = some (r1, r2)) :
  Calls Try.prog 95 #[.slice A0 l0.length c0] w fun e w' => e = .returned (.tuple #[.int .i64 r1, .bool r2]) ∧ Drawn0 w w' := by
 have HR0 := Aside0.mk hr0
 have HC0 := Aside0.mk hc0
 clear hr0 hc0
 have H : ((epactref12_leaps.f l0).bind fun t536 => (if t536 = (l0.length : Int) then (some (0, false)) else (if 0 ≤ t536 then (if t536 < (l0.length : Int) then (some ((rd_T53 l0 t536).f0, true)) else (none)) else (none)))) = some (r1, r2) := h
 clear h
 obtain ⟨t536, A2, H⟩ := bnd H
 try dsimp only at H
 by_cases c3 : t536 = (l0.length : Int)
 ·rw [if_pos c3] at H
  have c3b0 : (t536 == (l0.length : Int)) = true := beq_iff_eq.mpr c3
  have c3b1 : (t536 != (l0.length : Int)) = false := bne_eq_false_iff_eq.mpr c3
  clear c3
  simp only [Option.some.injEq, Prod.mk.injEq] at H
  obtain ⟨rfl, rfl⟩ := H
  go_enter Try.func95, Try.ntmps95
  go_wp2_with (first | (refine gN (some 6) Try.func99 #[.slice A0 l0.length c0] (epactref12_leaps.calls _ _ l0 t536 _ ?side1 ?side2 A2.out) ?_; (case side1 => exact ca HR0); (case side2 => exact HC0.out); intro nd))
  go_ret2
  exact fd
 ·rw [if_neg c3] at H
  have c3b0 : (t536 == (l0.length : Int)) = false := beq_eq_false_iff_ne.mpr c3
  have c3b1 : (t536 != (l0.length : Int)) = true := bne_iff_ne.mpr c3
  by_cases c4 : 0 ≤ t536
  ·rw [if_pos c4] at H
   have c4b0 : decide (0 ≤ t536) = true := decide_eq_true c4
   clear c4
   by_cases c5 : t536 < (l0.length : Int)
   ·rw [if_pos c5] at H
    have c5b0 : decide (t536 < (l0.length : Int)) = true := decide_eq_true c5
    clear c5
    simp only [Option.some.injEq, Prod.mk.injEq] at H
    obtain ⟨rfl, rfl⟩ := H
    go_enter Try.func95, Try.ntmps95
    go_wp2_with (first | (refine gN (some 6) Try.func99 #[.slice A0 l0.length c0] (epactref12_leaps.calls _ _ l0 t536 _ ?side1 ?side2 A2.out) ?_; (case side1 => exact ca HR0); (case side2 => exact HC0.out); intro nd; have p537 : 0 ≤ (t536 : Int) := pa; have q537 : t536 < (l0.length : Int) := pa; obtain ⟨ad537, e537, hx537_0, hx537_1⟩ := at_T53 HR0.out t536 p537 q537; cases e537; replace p537 := eq_true p537; replace q537 := eq_true q537))
    go_ret2
    exact fd
   ·rw [if_neg c5] at H
    exact absurd H (by simp)
  ·rw [if_neg c4] at H
   exact absurd H (by simp)

/-! ### epactref22_End: function 80 -/
def epactref22_End.f (k : Nat) (l0 : List (S53)) : Option (Int × Bool) := (epactref22_table.f k l0).bind fun bt538 => ((epactref12_Expiry.f l0).bind fun bt545 => (if bt538.2.2.2 = true then (if bt545.2 = true then (some (wrap64 (bt545.1 - 63072000), true)) else (some (0, false))) else (some (0, false))))
theorem epactref22_End.mono : ∀ a0 k, LeO (epactref22_End.f k a0) (epactref22_End.f (k + 1) a0) := by
 intro a0 k
 unfold epactref22_End.f
 repeat' first
   | (with_reducible exact epactref22_table.mono _ _)
   | (with_reducible exact LeO.refl _)
   | (with_reducible exact LeO.none _)
   | (with_reducible refine LeO.ite ?_ ?_)
   | (with_reducible refine LeO.bind ?_ (fun _ => ?_))
set_option maxHeartbeats 8000000 in
set_option maxRecDepth 100000 in
theorem epactref22_End.calls (k : Nat) (A0 : Option Addr) (c0 : Nat) (l0 : List (S53)) (r1 : Int) (r2 : Bool) (w : World) (hr0 : Kd.C k53 w A0 l0.length l0) (hc0 : l0.length ≤ c0) (h : epactref22_End.f k l0 = some (r1, r2)) :
  Calls Try.prog 80 #[.slice A0 l0.length c0] w fun e w' => e = .returned (.tuple #[.int .i64 r1, .bool r2]) ∧ Below w.heap.size w w' := by
 have hu44 := Try.underlying44
 have HR0 := Aside0.mk hr0
 have HC0 := Aside0.mk hc0
 clear hr0 hc0
 have HB := Aside0.mk (Below.refl w.heap.size w)
 have H : ((epactref22_table.f k l0).bind fun bt538 => ((epactref12_Expiry.f l0).bind fun bt545 => (if bt538.2.2.2 = true then (if bt545.2 = true then (some (wrap64 (bt545.1 - 63072000), true)) else (some (0, false))) else (some (0, false))))) = some (r1, r2) := h
 clear h
 obtain ⟨⟨t538, t541, t542, t543⟩, A2, H⟩ := bnd H
 try dsimp only at H
 obtain ⟨⟨t545, t546⟩, A3, H⟩ := bnd H
 try dsimp only at H
 by_cases c4 : t543 = true
 ·subst c4
  rw [if_pos rfl] at H
  by_cases c5 : t546 = true
  ·subst c5
   rw [if_pos rfl] at H
   simp only [Option.some.injEq, Prod.mk.injEq] at H
   obtain ⟨rfl, rfl⟩ := H
   go_enter Try.func80, Try.ntmps80
   go_wp2_with (first | (refine gL (some 10) Try.func70 #[.slice A0 l0.length c0] ?_; (with_reducible refine (epactref22_table.calls k _ _ l0 t538 t541 t542 true _ ?side1 ?side2 A2.out).mono ?_); (case side1 => exact ca HR0); (case side2 => exact HC0.out); rintro e w6 ⟨v539, rfl, ho0, hb⟩; refine ⟨_, rfl, ?_⟩; have HO540 := lw ho0 HB; replace HB := bs HB hb; (try clear hb); (try clear ho0)) | (refine bx 4 #[.slice none 0 0, .bool false, .int .i64 0] 44 ?_; intro gb544 hg w7 hbox hb; have n2_ := Aside0.mk (hbox); have GW544 := gw HB hg; have GE544 := gw HB hg; replace HO540 := rb HO540 hb; replace HB := bs HB hb; have BK544 := n2_; clear n2_; clear hb hbox hg; obtain ⟨Ao8, co8, eo8⟩ := Kd.R_slice HO540.out; subst eo8; have hcz9_0 := bc BK544 0; have hcz9_1 := bc BK544 1; have hcz9_2 := bc BK544 2; have hfz9_0 := bf BK544 0; have hfz9_1 := bf BK544 1; have hfz9_2 := bf BK544 2) | (refine gN (some 15) Try.func95 #[.slice A0 l0.length c0] (epactref12_Expiry.calls _ _ l0 t545 true _ ?side1 ?side2 A3.out) ?_; (case side1 => exact cb HR0 HB); (case side2 => exact HC0.out); intro nd))
   go_ret2
   exact fi HB
  ·replace c5 := Bool.eq_false_iff.mpr c5
   subst c5
   rw [if_neg (show ¬ (false = true) by decide)] at H
   simp only [Option.some.injEq, Prod.mk.injEq] at H
   obtain ⟨rfl, rfl⟩ := H
   go_enter Try.func80, Try.ntmps80
   go_wp2_with (first | (refine gL (some 10) Try.func70 #[.slice A0 l0.length c0] ?_; (with_reducible refine (epactref22_table.calls k _ _ l0 t538 t541 t542 true _ ?side1 ?side2 A2.out).mono ?_); (case side1 => exact ca HR0); (case side2 => exact HC0.out); rintro e w10 ⟨v539, rfl, ho0, hb⟩; refine ⟨_, rfl, ?_⟩; have HO540 := lw ho0 HB; replace HB := bs HB hb; (try clear hb); (try clear ho0)) | (refine bx 4 #[.slice none 0 0, .bool false, .int .i64 0] 44 ?_; intro gb544 hg w11 hbox hb; have n2_ := Aside0.mk (hbox); have GW544 := gw HB hg; have GE544 := gw HB hg; replace HO540 := rb HO540 hb; replace HB := bs HB hb; have BK544 := n2_; clear n2_; clear hb hbox hg; obtain ⟨Ao12, co12, eo12⟩ := Kd.R_slice HO540.out; subst eo12; have hcz13_0 := bc BK544 0; have hcz13_1 := bc BK544 1; have hcz13_2 := bc BK544 2; have hfz13_0 := bf BK544 0; have hfz13_1 := bf BK544 1; have hfz13_2 := bf BK544 2) | (refine gN (some 15) Try.func95 #[.slice A0 l0.length c0] (epactref12_Expiry.calls _ _ l0 t545 false _ ?side1 ?side2 A3.out) ?_; (case side1 => exact cb HR0 HB); (case side2 => exact HC0.out); intro nd))
   go_ret2
   exact fi HB
 ·replace c4 := Bool.eq_false_iff.mpr c4
  subst c4
  rw [if_neg (show ¬ (false = true) by decide)] at H
  simp only [Option.some.injEq, Prod.mk.injEq] at H
  obtain ⟨rfl, rfl⟩ := H
  go_enter Try.func80, Try.ntmps80
  go_wp2_with (first | (refine gL (some 10) Try.func70 #[.slice A0 l0.length c0] ?_; (with_reducible refine (epactref22_table.calls k _ _ l0 t538 t541 t542 false _ ?side1 ?side2 A2.out).mono ?_); (case side1 => exact ca HR0); (case side2 => exact HC0.out); rintro e w14 ⟨v539, rfl, ho0, hb⟩; refine ⟨_, rfl, ?_⟩; have HO540 := lw ho0 HB; replace HB := bs HB hb; (try clear hb); (try clear ho0)) | (refine bx 4 #[.slice none 0 0, .bool false, .int .i64 0] 44 ?_; intro gb544 hg w15 hbox hb; have n2_ := Aside0.mk (hbox); have GW544 := gw HB hg; have GE544 := gw HB hg; replace HO540 := rb HO540 hb; replace HB := bs HB hb; have BK544 := n2_; clear n2_; clear hb hbox hg; obtain ⟨Ao16, co16, eo16⟩ := Kd.R_slice HO540.out; subst eo16; have hcz17_0 := bc BK544 0; have hcz17_1 := bc BK544 1; have hcz17_2 := bc BK544 2; have hfz17_0 := bf BK544 0; have hfz17_1 := bf BK544 1; have hfz17_2 := bf BK544 2) | (refine gN (some 15) Try.func95 #[.slice A0 l0.length c0] (epactref12_Expiry.calls _ _ l0 t545 t546 _ ?side1 ?side2 A3.out) ?_; (case side1 => exact cb HR0 HB); (case side2 => exact HC0.out); intro nd))
  go_ret2
  exact fi HB

/-! ### epactref09_Find: function 104 -/
def epactref09_Find.l0 : Nat → Int → Int → List (S49) → Bool → Int → Option (Int)
 | 0, _, _, _, _, _ => none
 | k + 1, x1, x5, x548000, x548001, x548002 => if x5 < (x548000.length : Int) then (if 0 ≤ x5 then (if ((rd_T49 x548000 x5).f0) < x1 then (epactref09_Find.l0 k x1 (wrap64 (x5 + 1)) x548000 x548001 x548002) else (some x5)) else (none)) else (some x5)
def epactref09_Find.f (k : Nat) (l0_0 : List (S49)) (a0_1 : Bool) (a0_2 : Int) (a1 : Int) : Option (Int) := epactref09_Find.l0 k a1 0 l0_0 a0_1 a0_2
theorem epactref09_Find.mono_l : ∀ k, (∀ y0 y1 y2 y3 y4, LeO (epactref09_Find.l0 k y0 y1 y2 y3 y4) (epactref09_Find.l0 (k + 1) y0 y1 y2 y3 y4))
 | 0 => fun _ _ _ _ _ r h => by simp [epactref09_Find.l0] at h
 | k + 1 => by
  have ih0 := epactref09_Find.mono_l k
  ·intro y0 y1 y2 y3 y4
   unfold epactref09_Find.l0
   repeat' first
   | (with_reducible exact ih0 _ _ _ _ _)
   | (with_reducible exact LeO.refl _)
   | (with_reducible exact LeO.none _)
   | (with_reducible refine LeO.ite ?_ ?_)
   | (with_reducible refine LeO.bind ?_ (fun _ => ?_))
theorem epactref09_Find.mono : ∀ a0 a1 a2 a3 k, LeO (epactref09_Find.f k a0 a1 a2 a3) (epactref09_Find.f (k + 1) a0 a1 a2 a3) := by
 intro a0 a1 a2 a3 k
 have ih0 := epactref09_Find.mono_l k
 unfold epactref09_Find.f
 repeat' first
   | (with_reducible exact ih0 _ _ _ _ _)
   | (with_reducible exact LeO.refl _)
   | (with_reducible exact LeO.none _)
   | (with_reducible refine LeO.ite ?_ ?_)
   | (with_reducible refine LeO.bind ?_ (fun _ => ?_))
set_option maxHeartbeats 8000000 in
set_option maxRecDepth 100000 in
theorem epactref09_Find.calls (k : Nat) (A0_0 : Option Addr) (c0_0 : Nat) (l0_0 : List (S49)) (a0_1 : Bool) (a0_2 : Int) (a1 : Int) (r : Int) (w : World) (hr0_0 : Kd.C k49 w A0_0 l0_0.length l0_0) (hc0_0 : l0_0.length ≤ c0_0) (h : epactref09_Find.f k l0_0 a0_1 a0_2 a1 = some r) :
  Calls Try.prog 104 #[.agg #[.slice A0_0 l0_0.length c0_0, .bool a0_1, .int .i64 a0_2], .int .i64 a1] w fun e w' => e = .returned (.int .i64 r) ∧ Below w.heap.size w w' := by
 have hu44 := Try.underlying44
 have HR0_0 := Aside0.mk hr0_0
 have HC0_0 := Aside0.mk hc0_0
 clear hr0_0 hc0_0
 have HB := Aside0.mk (Below.refl w.heap.size w)
 have H : (epactref09_Find.l0 k a1 0 l0_0 a0_1 a0_2) = some r := h
 clear h
 have H' := Aside0.mk H
 clear H
 go_enter Try.func104, Try.ntmps104
 go_wp2_with (first | (refine bx 2 #[.slice A0_0 l0_0.length c0_0, .bool a0_1, .int .i64 a0_2] 44 ?_; intro gb547 hg w3 hbox hb; have n1_ := Aside0.mk (hbox); have GW547 := gw HB hg; have GE547 := gw HB hg; replace HB := bs HB hb; have BK547 := n1_; clear n1_; clear hb hbox hg))
 go_loopg [5] k (fun kq v5 w' => ∃ (x5_1 : Int), v5 = .int .i64 x5_1 ∧ Aside0 (epactref09_Find.l0 kq a1 x5_1 l0_0 a0_1 a0_2 = some r) ∧ Aside0 (kq ≤ k) ∧ Aside0 (w'.heap[gb547]? = some (.cells #[(.slice A0_0 l0_0.length c0_0), .bool a0_1, .int .i64 a0_2] 44 (0, 0))) ∧ Aside0 (Below w.heap.size w w'))
 case atStart => exact ⟨(0), pr, H', ⟨Nat.le_refl _⟩, ka BK547, ba HB⟩
 case round =>
  clear H'
  try clear c1
  try clear p2
  obtain ⟨x5_1, rfl, HA, HK1, BK547, HB⟩ := hrel
  cases gk with
  | zero => exact absurd HA.out (by simp [epactref09_Find.l0])
  | succ k1 =>
   have H := HA.out
   clear HA
   simp only [epactref09_Find.l0] at H
   by_cases c4 : x5_1 < (l0_0.length : Int)
   ·rw [if_pos c4] at H
    have c4b0 : decide (x5_1 < (l0_0.length : Int)) = true := decide_eq_true c4
    clear c4
    by_cases c5 : 0 ≤ x5_1
    ·rw [if_pos c5] at H
     have c5b0 : decide (0 ≤ x5_1) = true := decide_eq_true c5
     clear c5
     by_cases c6 : ((rd_T49 l0_0 x5_1).f0) < a1
     ·rw [if_pos c6] at H
      have c6b0 : decide (((rd_T49 l0_0 x5_1).f0) < a1) = true := decide_eq_true c6
      clear c6
      have H' := Aside0.mk H
      clear H
      have hcz7_0 := bc BK547 0
      have hcz7_1 := bc BK547 1
      have hcz7_2 := bc BK547 2
      have hfz7_0 := bf BK547 0
      have hfz7_1 := bf BK547 1
      have hfz7_2 := bf BK547 2
      have p548 : 0 ≤ (x5_1 : Int) := pa
      have q548 : x5_1 < (l0_0.length : Int) := pa
      obtain ⟨ad548, e548, hx548_0, hx548_1, hx548_2⟩ := at_T49 HR0_0.out x5_1 p548 q548
      cases e548
      replace hx548_0 := hx HB hx548_0
      replace hx548_1 := hx HB hx548_1
      replace hx548_2 := hx HB hx548_2
      replace p548 := eq_true p548
      replace q548 := eq_true q548
      go_wp2
      go_roundg k1
      case measure => have := HK1.out; omega
      case rel => exact ⟨(wrap64 (x5_1 + 1)), pr, H', ⟨by have := HK1.out; omega⟩, ka BK547, ba HB⟩
     ·rw [if_neg c6] at H
      have c6b0 : decide (((rd_T49 l0_0 x5_1).f0) < a1) = false := decide_eq_false c6
      clear c6
      obtain rfl := Option.some.inj H
      have hcz8_0 := bc BK547 0
      have hcz8_1 := bc BK547 1
      have hcz8_2 := bc BK547 2
      have hfz8_0 := bf BK547 0
      have hfz8_1 := bf BK547 1
      have hfz8_2 := bf BK547 2
      have p548 : 0 ≤ (x5_1 : Int) := pa
      have q548 : x5_1 < (l0_0.length : Int) := pa
      obtain ⟨ad548, e548, hx548_0, hx548_1, hx548_2⟩ := at_T49 HR0_0.out x5_1 p548 q548
      cases e548
      replace hx548_0 := hx HB hx548_0
      replace hx548_1 := hx HB hx548_1
      replace hx548_2 := hx HB hx548_2
      replace p548 := eq_true p548
      replace q548 := eq_true q548
      go_wp2
      go_ret
      exact fi HB
    ·rw [if_neg c5] at H
     exact absurd H (by simp)
   ·rw [if_neg c4] at H
    have c4b0 : decide (x5_1 < (l0_0.length : Int)) = false := decide_eq_false c4
    clear c4
    obtain rfl := Option.some.inj H
    have hcz9_0 := bc BK547 0
    have hcz9_1 := bc BK547 1
    have hcz9_2 := bc BK547 2
    have hfz9_0 := bf BK547 0
    have hfz9_1 := bf BK547 1
    have hfz9_2 := bf BK547 2
    go_wp2
    go_ret
    exact fi HB

/-! ### epactref09_Total: function 93 -/
def epactref09_Total.l0 : Nat → Int → Int → Int → List (S49) → Bool → Int → Option (Int)
 | 0, _, _, _, _, _, _ => none
 | k + 1, x1, x5, x6, x550000, x550001, x550002 => (epactref09_Find.f k x550000 x550001 x550002 x1).bind fun t550 => (if x6 < t550 then (if 0 ≤ x6 then (if x6 < (x550000.length : Int) then (epactref09_Total.l0 k x1 (wrap64 (x5 + ((rd_T49 x550000 x6).f1))) (wrap64 (x6 + 1)) x550000 x550001 x550002) else (none)) else (none)) else (some x5))
def epactref09_Total.f (k : Nat) (l0_0 : List (S49)) (a0_1 : Bool) (a0_2 : Int) (a1 : Int) : Option (Int) := epactref09_Total.l0 k a1 0 0 l0_0 a0_1 a0_2
theorem epactref09_Total.mono_l : ∀ k, (∀ y0 y1 y2 y3 y4 y5, LeO (epactref09_Total.l0 k y0 y1 y2 y3 y4 y5) (epactref09_Total.l0 (k + 1) y0 y1 y2 y3 y4 y5))
 | 0 => fun _ _ _ _ _ _ r h => by simp [epactref09_Total.l0] at h
 | k + 1 => by
  have ih0 := epactref09_Total.mono_l k
  ·intro y0 y1 y2 y3 y4 y5
   unfold epactref09_Total.l0
   repeat' first
   | (with_reducible exact ih0 _ _ _ _ _ _)
   | (with_reducible exact epactref09_Find.mono _ _ _ _ _)
   | (with_reducible exact LeO.refl _)
   | (with_reducible exact LeO.none _)
   | (with_reducible refine LeO.ite ?_ ?_)
   | (with_reducible refine LeO.bind ?_ (fun _ => ?_))
theorem epactref09_Total.mono : ∀ a0 a1 a2 a3 k, LeO (epactref09_Total.f k a0 a1 a2 a3) (epactref09_Total.f (k + 1) a0 a1 a2 a3) := by
 intro a0 a1 a2 a3 k
 have ih0 := epactref09_Total.mono_l k
 unfold epactref09_Total.f
 repeat' first
   | (with_reducible exact ih0 _ _ _ _ _ _)
   | (with_reducible exact epactref09_Find.mono _ _ _ _ _)
   | (with_reducible exact LeO.refl _)
   | (with_reducible exact LeO.none _)
   | (with_reducible refine LeO.ite ?_ ?_)
   | (with_reducible refine LeO.bind ?_ (fun _ => ?_))
set_option maxHeartbeats 8000000 in
set_option maxRecDepth 100000 in
theorem epactref09_Total.calls (k : Nat) (A0_0 : Option Addr) (c0_0 : Nat) (l0_0 : List (S49)) (a0_1 : Bool) (a0_2 : Int) (a1 : Int) (r : Int) (w : World) (hr0_0 : Kd.C k49 w A0_0 l0_0.length l0_0) (hc0_0 : l0_0.length ≤ c0_0) (h : epactref09_Total.f k l0_0 a0_1 a0_2 a1 = some r) :
  Calls Try.prog 93 #[.agg #[.slice A0_0 l0_0.length c0_0, .bool a0_1, .int .i64 a0_2], .int .i64 a1] w fun e w' => e = .returned (.int .i64 r) ∧ Below w.heap.size w w' := by
 have hu44 := Try.underlying44
 have HR0_0 := Aside0.mk hr0_0
 have HC0_0 := Aside0.mk hc0_0
 clear hr0_0 hc0_0
 have HB := Aside0.mk (Below.refl w.heap.size w)
 have H : (epactref09_Total.l0 k a1 0 0 l0_0 a0_1 a0_2) = some r := h
 clear h
 have H' := Aside0.mk H
 clear H
 go_enter Try.func93, Try.ntmps93
 go_wp2_with (first | (refine bx 2 #[.slice A0_0 l0_0.length c0_0, .bool a0_1, .int .i64 a0_2] 44 ?_; intro gb549 hg w3 hbox hb; have n1_ := Aside0.mk (hbox); have GW549 := gw HB hg; have GE549 := gw HB hg; replace HB := bs HB hb; have BK549 := n1_; clear n1_; clear hb hbox hg))
 go_loopg [5, 6] k (fun kq v5 v6 w' => ∃ (x5_1 : Int) (x6_1 : Int), v5 = .int .i64 x5_1 ∧ v6 = .int .i64 x6_1 ∧ Aside0 (epactref09_Total.l0 kq a1 x5_1 x6_1 l0_0 a0_1 a0_2 = some r) ∧ Aside0 (kq ≤ k) ∧ Aside0 (w'.heap[gb549]? = some (.cells #[(.slice A0_0 l0_0.length c0_0), .bool a0_1, .int .i64 a0_2] 44 (0, 0))) ∧ Aside0 (Below w.heap.size w w'))
 case atStart => exact ⟨(0), (0), pr, pr, H', ⟨Nat.le_refl _⟩, ka BK549, ba HB⟩
 case round =>
  clear H'
  try clear p2
  obtain ⟨x5_1, x6_1, rfl, rfl, HA, HK1, BK549, HB⟩ := hrel
  cases gk with
  | zero => exact absurd HA.out (by simp [epactref09_Total.l0])
  | succ k1 =>
   have H := HA.out
   clear HA
   simp only [epactref09_Total.l0] at H
   obtain ⟨t550, A4, H⟩ := bnd H
   try dsimp only at H
   by_cases c5 : x6_1 < t550
   ·rw [if_pos c5] at H
    have c5b0 : decide (x6_1 < t550) = true := decide_eq_true c5
    clear c5
    by_cases c6 : 0 ≤ x6_1
    ·rw [if_pos c6] at H
     have c6b0 : decide (0 ≤ x6_1) = true := decide_eq_true c6
     clear c6
     by_cases c7 : x6_1 < (l0_0.length : Int)
     ·rw [if_pos c7] at H
      have c7b0 : decide (x6_1 < (l0_0.length : Int)) = true := decide_eq_true c7
      clear c7
      have H' := Aside0.mk H
      clear H
      have hcz8_0 := bc BK549 0
      have hcz8_1 := bc BK549 1
      have hcz8_2 := bc BK549 2
      have hfz8_0 := bf BK549 0
      have hfz8_1 := bf BK549 1
      have hfz8_2 := bf BK549 2
      go_wp2_with (first | (refine gM (some 10) Try.func104 #[.agg #[.slice A0_0 l0_0.length c0_0, .bool a0_1, .int .i64 a0_2], .int .i64 a1] (epactref09_Find.calls k1 _ _ l0_0 a0_1 a0_2 a1 t550 _ ?side1 ?side2 A4.out) ?_; (case side1 => exact cb HR0_0 HB); (case side2 => exact HC0_0.out); intro w9 hb; replace BK549 := kb BK549 hb; replace HB := bs HB hb; (try clear hb); have hcz10_0 := bc BK549 0; have hcz10_1 := bc BK549 1; have hcz10_2 := bc BK549 2; have hfz10_0 := bf BK549 0; have hfz10_1 := bf BK549 1; have hfz10_2 := bf BK549 2; have p551 : 0 ≤ (x6_1 : Int) := pa; have q551 : x6_1 < (l0_0.length : Int) := pa; obtain ⟨ad551, e551, hx551_0, hx551_1, hx551_2⟩ := at_T49 HR0_0.out x6_1 p551 q551; cases e551; replace hx551_0 := hx HB hx551_0; replace hx551_1 := hx HB hx551_1; replace hx551_2 := hx HB hx551_2; replace p551 := eq_true p551; replace q551 := eq_true q551))
      go_roundg k1
      case measure => have := HK1.out; omega
      case rel => exact ⟨(wrap64 (x5_1 + ((rd_T49 l0_0 x6_1).f1))), (wrap64 (x6_1 + 1)), pr, pr, H', ⟨by have := HK1.out; omega⟩, ka BK549, ba HB⟩
     ·rw [if_neg c7] at H
      exact absurd H (by simp)
    ·rw [if_neg c6] at H
     exact absurd H (by simp)
   ·rw [if_neg c5] at H
    have c5b0 : decide (x6_1 < t550) = false := decide_eq_false c5
    clear c5
    obtain rfl := Option.some.inj H
    have hcz11_0 := bc BK549 0
    have hcz11_1 := bc BK549 1
    have hcz11_2 := bc BK549 2
    have hfz11_0 := bf BK549 0
    have hfz11_1 := bf BK549 1
    have hfz11_2 := bf BK549 2
    go_wp2_with (first | (refine gM (some 10) Try.func104 #[.agg #[.slice A0_0 l0_0.length c0_0, .bool a0_1, .int .i64 a0_2], .int .i64 a1] (epactref09_Find.calls k1 _ _ l0_0 a0_1 a0_2 a1 t550 _ ?side1 ?side2 A4.out) ?_; (case side1 => exact cb HR0_0 HB); (case side2 => exact HC0_0.out); intro w12 hb; replace BK549 := kb BK549 hb; replace HB := bs HB hb; (try clear hb)))
    go_ret
    exact fi HB

/-! ### epactref22_Tai: function 71 -/
def epactref22_Tai.j0 : Nat → List (S53) → Int → Int → Bool → List (S49) → Bool → Int → Option (Int × Int)
 | 0, _, _, _, _, _, _, _ => none
 | k + 1, x0, x1, x2, x33, x559000, x559001, x559002 => if x33 = true then (some (0, 9)) else ((epactref09_Length.f k x559000 x559001 x559002 x1).bind fun t559 => (if x2 ≥ t559 then (some (0, 11)) else ((epactref09_Total.f k x559000 x559001 x559002 x1).bind fun t560 => ((epactref22_End.f k x0).bind fun bt561 => (if bt561.2 = true then (if (wrap64 ((wrap64 ((wrap64 (86400 * (wrap64 (x1 - 730)))) + t560)) + x2)) ≥ bt561.1 then (some (0, 10)) else (some (wrap64 ((wrap64 ((wrap64 (86400 * (wrap64 (x1 - 730)))) + t560)) + x2), 0))) else (some (wrap64 ((wrap64 ((wrap64 (86400 * (wrap64 (x1 - 730)))) + t560)) + x2), 0)))))))
def epactref22_Tai.f (k : Nat) (l0 : List (S53)) (a1 : Int) (a2 : Int) : Option (Int × Int) := (epactref22_table.f k l0).bind fun bt552 => (if bt552.2.2.2 = true then (if a1 < 730 then (epactref22_Tai.j0 k l0 a1 a2 true bt552.1 bt552.2.1 bt552.2.2.1) else (if a1 > 2932896 then (epactref22_Tai.j0 k l0 a1 a2 true bt552.1 bt552.2.1 bt552.2.2.1) else (if a2 < 0 then (epactref22_Tai.j0 k l0 a1 a2 true bt552.1 bt552.2.1 bt552.2.2.1) else (epactref22_Tai.j0 k l0 a1 a2 (decide (a2 > 86400)) bt552.1 bt552.2.1 bt552.2.2.1)))) else (some (0, 1)))
theorem epactref22_Tai.mono_l : ∀ k, (∀ y0 y1 y2 y3 y4 y5 y6, LeO (epactref22_Tai.j0 k y0 y1 y2 y3 y4 y5 y6) (epactref22_Tai.j0 (k + 1) y0 y1 y2 y3 y4 y5 y6))
 | 0 => fun _ _ _ _ _ _ _ r h => by simp [epactref22_Tai.j0] at h
 | k + 1 => by
  have ih0 := epactref22_Tai.mono_l k
  ·intro y0 y1 y2 y3 y4 y5 y6
   unfold epactref22_Tai.j0
   repeat' first
   | (with_reducible exact ih0 _ _ _ _ _ _ _)
   | (with_reducible exact epactref09_Length.mono _ _ _ _ _)
   | (with_reducible exact epactref09_Total.mono _ _ _ _ _)
   | (with_reducible exact epactref22_End.mono _ _)
   | (with_reducible exact epactref22_table.mono _ _)
   | (with_reducible exact LeO.refl _)
   | (with_reducible exact LeO.none _)
   | (with_reducible refine LeO.ite ?_ ?_)
   | (with_reducible refine LeO.bind ?_ (fun _ => ?_))
theorem epactref22_Tai.mono : ∀ a0 a1 a2 k, LeO (epactref22_Tai.f k a0 a1 a2) (epactref22_Tai.f (k + 1) a0 a1 a2) := by
 intro a0 a1 a2 k
 have ih0 := epactref22_Tai.mono_l k
 unfold epactref22_Tai.f
 repeat' first
   | (with_reducible exact ih0 _ _ _ _ _ _ _)
   | (with_reducible exact epactref09_Length.mono _ _ _ _ _)
   | (with_reducible exact epactref09_Total.mono _ _ _ _ _)
   | (with_reducible exact epactref22_End.mono _ _)
   | (with_reducible exact epactref22_table.mono _ _)
   | (with_reducible exact LeO.refl _)
   | (with_reducible exact LeO.none _)
   | (with_reducible refine LeO.ite ?_ ?_)
   | (with_reducible refine LeO.bind ?_ (fun _ => ?_))
set_option maxHeartbeats 8000000 in
set_option maxRecDepth 100000 in
theorem epactref22_Tai.calls (k : Nat) (A0 : Option Addr) (c0 : Nat) (l0 : List (S53)) (a1 : Int) (a2 : Int) (r1 : Int) (r2 : Int) (w : World) (hr0 : Kd.C k53 w A0 l0.length l0) (hc0 : l0.length ≤ c0) (h : epactref22_Tai.f k l0 a1 a2 = some (r1, r2)) :
  Calls Try.prog 71 #[.slice A0 l0.length c0, .int .i64 a1, .int .i64 a2] w fun e w' => e = .returned (.tuple #[.int .i64 r1, .int .i64 r2]) ∧ Below w.heap.size w w' := by
 have hu44 := Try.underlying44
 have HR0 := Aside0.mk hr0
 have HC0 := Aside0.mk hc0
 clear hr0 hc0
 have HB := Aside0.mk (Below.refl w.heap.size w)
 have H : ((epactref22_table.f k l0).bind fun bt552 => (if bt552.2.2.2 = true then (if a1 < 730 then (epactref22_Tai.j0 k l0 a1 a2 true bt552.1 bt552.2.1 bt552.2.2.1) else (if a1 > 2932896 then (epactref22_Tai.j0 k l0 a1 a2 true bt552.1 bt552.2.1 bt552.2.2.1) else (if a2 < 0 then (epactref22_Tai.j0 k l0 a1 a2 true bt552.1 bt552.2.1 bt552.2.2.1) else (epactref22_Tai.j0 k l0 a1 a2 (decide (a2 > 86400)) bt552.1 bt552.2.1 bt552.2.2.1)))) else (some (0, 1)))) = some (r1, r2) := h
 clear h
 obtain ⟨⟨t552, t555, t556, t557⟩, A4, H⟩ := bnd H
 try dsimp only at H
 by_cases c5 : t557 = true
 ·subst c5
  rw [if_pos rfl] at H
  have HC6 := Aside0.mk H
  clear H
  go_enter Try.func71, Try.ntmps71
  go_upto_region 4 with (first | (refine gL (some 15) Try.func70 #[.slice A0 l0.length c0] ?_; (with_reducible refine (epactref22_table.calls k _ _ l0 t552 t555 t556 true _ ?side1 ?side2 A4.out).mono ?_); (case side1 => exact ca HR0); (case side2 => exact HC0.out); rintro e w7 ⟨v553, rfl, ho0, hb⟩; refine ⟨_, rfl, ?_⟩; have HO554 := lw ho0 HB; replace HB := bs HB hb; (try clear hb); (try clear ho0)) | (refine bx 8 #[.slice none 0 0, .bool false, .int .i64 0] 44 ?_; intro gb558 hg w8 hbox hb; have n2_ := Aside0.mk (hbox); have GW558 := gw HB hg; have GE558 := gw HB hg; replace HO554 := rb HO554 hb; replace HB := bs HB hb; have BK558 := n2_; clear n2_; clear hb hbox hg; obtain ⟨Ao9, co9, eo9⟩ := Kd.R_slice HO554.out; subst eo9; have hcz10_0 := bc BK558 0; have hcz10_1 := bc BK558 1; have hcz10_2 := bc BK558 2; have hfz10_0 := bf BK558 0; have hfz10_1 := bf BK558 1; have hfz10_2 := bf BK558 2))
  (try simp only [Act.put, List.setIfInBounds_toArray, List.set_cons_zero, List.set_cons_succ])
  go_cut [33] (fun v33 wc => ∃ (kq : Nat) (x33_5 : Bool), v33 = .bool x33_5 ∧ Aside0 (epactref22_Tai.j0 kq l0 a1 a2 x33_5 t552 t555 t556 = some (r1, r2)) ∧ Aside0 (kq ≤ k) ∧ Aside0 (Kd.R k49 49 wc w.heap.size (fun _ => True) (.slice Ao9 t552.length co9) t552) ∧ Aside0 (wc.heap[gb558]? = some (.cells #[(.slice Ao9 t552.length co9), .bool t555, .int .i64 t556] 44 (0, 0))) ∧ Aside0 (Below w.heap.size w wc))
  case first =>
   have H := HC6.out
   clear HC6
   by_cases c11 : a1 < 730
   ·rw [if_pos c11] at H
    have c11b0 : decide (a1 < 730) = true := decide_eq_true c11
    clear c11
    (first | rw [c11b0] | (simp only [i64_w, i32_w]; rw [c11b0]) | skip)
    have H' := Aside0.mk H
    clear H
    go_wp2
    go_meet
    case rel => exact ⟨_, (true), pr, H', om, ⟨by (with_reducible repeat (first | apply Kd.R_alloc | apply Kd.R_drewN | apply Kd.R_drew)); exact Kd.R_mono (Kd.R_far (p := ⟨gb558, 2, none⟩) (Kd.R_far (p := ⟨gb558, 1, none⟩) (Kd.R_far (p := ⟨gb558, 0, none⟩) (Kd.R_types HO554.out BK558.out (by decide)) (fun _ hk => hk.2) (.slice Ao9 t552.length co9)) (fun _ hk => hk.2) (.bool t555)) (fun _ hk => hk.2) (.int .i64 t556)) (fun _ hk => trivial)⟩, ⟨by (with_reducible repeat (first | refine blk_drewN ?_ _ | refine blk_drew ?_ | refine blk_alloc ?_ _)); refine blk_put (cs := #[.slice Ao9 t552.length co9, .bool t555, .int .i64 0]) ?_ 2 _ rfl; (with_reducible repeat (first | refine blk_drewN ?_ _ | refine blk_drew ?_ | refine blk_alloc ?_ _)); refine blk_put (cs := #[.slice Ao9 t552.length co9, .bool false, .int .i64 0]) ?_ 1 _ rfl; (with_reducible repeat (first | refine blk_drewN ?_ _ | refine blk_drew ?_ | refine blk_alloc ?_ _)); refine blk_put (cs := #[.slice none 0 0, .bool false, .int .i64 0]) ?_ 0 _ rfl; (with_reducible repeat (first | refine blk_drewN ?_ _ | refine blk_drew ?_ | refine blk_alloc ?_ _)); exact BK558.out⟩, ba HB⟩
   ·rw [if_neg c11] at H
    have c11b0 : decide (a1 < 730) = false := decide_eq_false c11
    clear c11
    (first | rw [c11b0] | (simp only [i64_w, i32_w]; rw [c11b0]) | skip)
    by_cases c12 : a1 > 2932896
    ·rw [if_pos c12] at H
     have c12b0 : decide (2932896 < a1) = true := decide_eq_true c12
     clear c12
     have H' := Aside0.mk H
     clear H
     go_wp2
     go_meet
     case rel => exact ⟨_, (true), pr, H', om, ⟨by (with_reducible repeat (first | apply Kd.R_alloc | apply Kd.R_drewN | apply Kd.R_drew)); exact Kd.R_mono (Kd.R_far (p := ⟨gb558, 2, none⟩) (Kd.R_far (p := ⟨gb558, 1, none⟩) (Kd.R_far (p := ⟨gb558, 0, none⟩) (Kd.R_types HO554.out BK558.out (by decide)) (fun _ hk => hk.2) (.slice Ao9 t552.length co9)) (fun _ hk => hk.2) (.bool t555)) (fun _ hk => hk.2) (.int .i64 t556)) (fun _ hk => trivial)⟩, ⟨by (with_reducible repeat (first | refine blk_drewN ?_ _ | refine blk_drew ?_ | refine blk_alloc ?_ _)); refine blk_put (cs := #[.slice Ao9 t552.length co9, .bool t555, .int .i64 0]) ?_ 2 _ rfl; (with_reducible repeat (first | refine blk_drewN ?_ _ | refine blk_drew ?_ | refine blk_alloc ?_ _)); refine blk_put (cs := #[.slice Ao9 t552.length co9, .bool false, .int .i64 0]) ?_ 1 _ rfl; (with_reducible repeat (first | refine blk_drewN ?_ _ | refine blk_drew ?_ | refine blk_alloc ?_ _)); refine blk_put (cs := #[.slice none 0 0, .bool false, .int .i64 0]) ?_ 0 _ rfl; (with_reducible repeat (first | refine blk_drewN ?_ _ | refine blk_drew ?_ | refine blk_alloc ?_ _)); exact BK558.out⟩, ba HB⟩
    ·rw [if_neg c12] at H
     have c12b0 : decide (2932896 < a1) = false := decide_eq_false c12
     clear c12
     by_cases c13 : a2 < 0
     ·rw [if_pos c13] at H
      have c13b0 : decide (a2 < 0) = true := decide_eq_true c13
      clear c13
      have H' := Aside0.mk H
      clear H
      go_wp2
      go_meet
      case rel => exact ⟨_, (true), pr, H', om, ⟨by (with_reducible repeat (first | apply Kd.R_alloc | apply Kd.R_drewN | apply Kd.R_drew)); exact Kd.R_mono (Kd.R_far (p := ⟨gb558, 2, none⟩) (Kd.R_far (p := ⟨gb558, 1, none⟩) (Kd.R_far (p := ⟨gb558, 0, none⟩) (Kd.R_types HO554.out BK558.out (by decide)) (fun _ hk => hk.2) (.slice Ao9 t552.length co9)) (fun _ hk => hk.2) (.bool t555)) (fun _ hk => hk.2) (.int .i64 t556)) (fun _ hk => trivial)⟩, ⟨by (with_reducible repeat (first | refine blk_drewN ?_ _ | refine blk_drew ?_ | refine blk_alloc ?_ _)); refine blk_put (cs := #[.slice Ao9 t552.length co9, .bool t555, .int .i64 0]) ?_ 2 _ rfl; (with_reducible repeat (first | refine blk_drewN ?_ _ | refine blk_drew ?_ | refine blk_alloc ?_ _)); refine blk_put (cs := #[.slice Ao9 t552.length co9, .bool false, .int .i64 0]) ?_ 1 _ rfl; (with_reducible repeat (first | refine blk_drewN ?_ _ | refine blk_drew ?_ | refine blk_alloc ?_ _)); refine blk_put (cs := #[.slice none 0 0, .bool false, .int .i64 0]) ?_ 0 _ rfl; (with_reducible repeat (first | refine blk_drewN ?_ _ | refine blk_drew ?_ | refine blk_alloc ?_ _)); exact BK558.out⟩, ba HB⟩
     ·rw [if_neg c13] at H
      have c13b0 : decide (a2 < 0) = false := decide_eq_false c13
      clear c13
      have H' := Aside0.mk H
      clear H
      go_wp2
      go_meet
      case rel => exact ⟨_, (decide (a2 > 86400)), pr, H', om, ⟨by (with_reducible repeat (first | apply Kd.R_alloc | apply Kd.R_drewN | apply Kd.R_drew)); exact Kd.R_mono (Kd.R_far (p := ⟨gb558, 2, none⟩) (Kd.R_far (p := ⟨gb558, 1, none⟩) (Kd.R_far (p := ⟨gb558, 0, none⟩) (Kd.R_types HO554.out BK558.out (by decide)) (fun _ hk => hk.2) (.slice Ao9 t552.length co9)) (fun _ hk => hk.2) (.bool t555)) (fun _ hk => hk.2) (.int .i64 t556)) (fun _ hk => trivial)⟩, ⟨by (with_reducible repeat (first | refine blk_drewN ?_ _ | refine blk_drew ?_ | refine blk_alloc ?_ _)); refine blk_put (cs := #[.slice Ao9 t552.length co9, .bool t555, .int .i64 0]) ?_ 2 _ rfl; (with_reducible repeat (first | refine blk_drewN ?_ _ | refine blk_drew ?_ | refine blk_alloc ?_ _)); refine blk_put (cs := #[.slice Ao9 t552.length co9, .bool false, .int .i64 0]) ?_ 1 _ rfl; (with_reducible repeat (first | refine blk_drewN ?_ _ | refine blk_drew ?_ | refine blk_alloc ?_ _)); refine blk_put (cs := #[.slice none 0 0, .bool false, .int .i64 0]) ?_ 0 _ rfl; (with_reducible repeat (first | refine blk_drewN ?_ _ | refine blk_drew ?_ | refine blk_alloc ?_ _)); exact BK558.out⟩, ba HB⟩
  case rest =>
   clear HC6
   try clear c1
   try clear p2
   try clear c5
   try clear c7
   try clear c11
   try clear c11b0
   try clear c12
   try clear c12b0
   try clear c13
   try clear c13b0
   try clear hcz10_0
   try clear hcz10_1
   try clear hcz10_2
   try clear hfz10_0
   try clear hfz10_1
   try clear hfz10_2
   obtain ⟨kq, x33_5, rfl, HA, HJ5, HO_559000, BK558, HB⟩ := hcut
   cases kq with
   | zero => exact absurd HA.out (by simp [epactref22_Tai.j0])
   | succ kj5 =>
    have H := HA.out
    clear HA
    simp only [epactref22_Tai.j0] at H
    by_cases c14 : x33_5 = true
    ·subst c14
     rw [if_pos rfl] at H
     simp only [Option.some.injEq, Prod.mk.injEq] at H
     obtain ⟨rfl, rfl⟩ := H
     go_wp2
     go_ret2
     exact fi HB
    ·replace c14 := Bool.eq_false_iff.mpr c14
     subst c14
     rw [if_neg (show ¬ (false = true) by decide)] at H
     obtain ⟨t559, A15, H⟩ := bnd H
     try dsimp only at H
     by_cases c16 : a2 ≥ t559
     ·rw [if_pos c16] at H
      have c16b0 : decide (t559 ≤ a2) = true := decide_eq_true c16
      clear c16
      simp only [Option.some.injEq, Prod.mk.injEq] at H
      obtain ⟨rfl, rfl⟩ := H
      have hcz17_0 := bc BK558 0
      have hcz17_1 := bc BK558 1
      have hcz17_2 := bc BK558 2
      have hfz17_0 := bf BK558 0
      have hfz17_1 := bf BK558 1
      have hfz17_2 := bf BK558 2
      go_wp2_with (first | (refine gM (some 37) Try.func72 #[.agg #[.slice Ao9 t552.length co9, .bool t555, .int .i64 t556], .int .i64 a1] (epactref09_Length.calls kj5 _ _ t552 t555 t556 a1 t559 _ ?side1 ?side2 A15.out) ?_; (case side1 => repeat (first | exact (Kd.R_reads' HO_559000.out).2.2 | (with_reducible refine Kd.C_alloc ?_ _) | (with_reducible refine Kd.C_drewN ?_ _) | (with_reducible refine Kd.C_drew ?_))); (case side2 => exact (Kd.R_reads' HO_559000.out).2.1); intro w18 hb; replace HO_559000 := rb HO_559000 hb; replace BK558 := kb BK558 hb; replace HB := bs HB hb; (try clear hb)))
      go_ret2
      exact fi HB
     ·rw [if_neg c16] at H
      have c16b0 : decide (t559 ≤ a2) = false := decide_eq_false c16
      clear c16
      obtain ⟨t560, A19, H⟩ := bnd H
      try dsimp only at H
      obtain ⟨⟨t561, t562⟩, A20, H⟩ := bnd H
      try dsimp only at H
      by_cases c21 : t562 = true
      ·subst c21
       rw [if_pos rfl] at H
       by_cases c22 : (wrap64 ((wrap64 ((wrap64 (86400 * (wrap64 (a1 - 730)))) + t560)) + a2)) ≥ t561
       ·rw [if_pos c22] at H
        have c22b0 : decide (t561 ≤ (wrap64 ((wrap64 ((wrap64 (86400 * (wrap64 (a1 - 730)))) + t560)) + a2))) = true := decide_eq_true c22
        clear c22
        simp only [Option.some.injEq, Prod.mk.injEq] at H
        obtain ⟨rfl, rfl⟩ := H
        have hcz23_0 := bc BK558 0
        have hcz23_1 := bc BK558 1
        have hcz23_2 := bc BK558 2
        have hfz23_0 := bf BK558 0
        have hfz23_1 := bf BK558 1
        have hfz23_2 := bf BK558 2
        go_wp2_with (first | (refine gM (some 37) Try.func72 #[.agg #[.slice Ao9 t552.length co9, .bool t555, .int .i64 t556], .int .i64 a1] (epactref09_Length.calls kj5 _ _ t552 t555 t556 a1 t559 _ ?side1 ?side2 A15.out) ?_; (case side1 => repeat (first | exact (Kd.R_reads' HO_559000.out).2.2 | (with_reducible refine Kd.C_alloc ?_ _) | (with_reducible refine Kd.C_drewN ?_ _) | (with_reducible refine Kd.C_drew ?_))); (case side2 => exact (Kd.R_reads' HO_559000.out).2.1); intro w24 hb; replace HO_559000 := rb HO_559000 hb; replace BK558 := kb BK558 hb; replace HB := bs HB hb; (try clear hb); have hcz25_0 := bc BK558 0; have hcz25_1 := bc BK558 1; have hcz25_2 := bc BK558 2; have hfz25_0 := bf BK558 0; have hfz25_1 := bf BK558 1; have hfz25_2 := bf BK558 2) | (refine gM (some 44) Try.func93 #[.agg #[.slice Ao9 t552.length co9, .bool t555, .int .i64 t556], .int .i64 a1] (epactref09_Total.calls kj5 _ _ t552 t555 t556 a1 t560 _ ?side1 ?side2 A19.out) ?_; (case side1 => repeat (first | exact (Kd.R_reads' HO_559000.out).2.2 | (with_reducible refine Kd.C_alloc ?_ _) | (with_reducible refine Kd.C_drewN ?_ _) | (with_reducible refine Kd.C_drew ?_))); (case side2 => exact (Kd.R_reads' HO_559000.out).2.1); intro w26 hb; replace HO_559000 := rb HO_559000 hb; replace BK558 := kb BK558 hb; replace HB := bs HB hb; (try clear hb)) | (refine gM (some 50) Try.func80 #[.slice A0 l0.length c0] (epactref22_End.calls kj5 _ _ l0 t561 true _ ?side1 ?side2 A20.out) ?_; (case side1 => exact cb HR0 HB); (case side2 => exact HC0.out); intro w27 hb; replace HO_559000 := rb HO_559000 hb; replace BK558 := kb BK558 hb; replace HB := bs HB hb; (try clear hb)))
        go_ret2
        exact fi HB
       ·rw [if_neg c22] at H
        have c22b0 : decide (t561 ≤ (wrap64 ((wrap64 ((wrap64 (86400 * (wrap64 (a1 - 730)))) + t560)) + a2))) = false := decide_eq_false c22
        clear c22
        simp only [Option.some.injEq, Prod.mk.injEq] at H
        obtain ⟨rfl, rfl⟩ := H
        have hcz28_0 := bc BK558 0
        have hcz28_1 := bc BK558 1
        have hcz28_2 := bc BK558 2
        have hfz28_0 := bf BK558 0
        have hfz28_1 := bf BK558 1
        have hfz28_2 := bf BK558 2
        go_wp2_with (first | (refine gM (some 37) Try.func72 #[.agg #[.slice Ao9 t552.length co9, .bool t555, .int .i64 t556], .int .i64 a1] (epactref09_Length.calls kj5 _ _ t552 t555 t556 a1 t559 _ ?side1 ?side2 A15.out) ?_; (case side1 => repeat (first | exact (Kd.R_reads' HO_559000.out).2.2 | (with_reducible refine Kd.C_alloc ?_ _) | (with_reducible refine Kd.C_drewN ?_ _) | (with_reducible refine Kd.C_drew ?_))); (case side2 => exact (Kd.R_reads' HO_559000.out).2.1); intro w29 hb; replace HO_559000 := rb HO_559000 hb; replace BK558 := kb BK558 hb; replace HB := bs HB hb; (try clear hb); have hcz30_0 := bc BK558 0; have hcz30_1 := bc BK558 1; have hcz30_2 := bc BK558 2; have hfz30_0 := bf BK558 0; have hfz30_1 := bf BK558 1; have hfz30_2 := bf BK558 2) | (refine gM (some 44) Try.func93 #[.agg #[.slice Ao9 t552.length co9, .bool t555, .int .i64 t556], .int .i64 a1] (epactref09_Total.calls kj5 _ _ t552 t555 t556 a1 t560 _ ?side1 ?side2 A19.out) ?_; (case side1 => repeat (first | exact (Kd.R_reads' HO_559000.out).2.2 | (with_reducible refine Kd.C_alloc ?_ _) | (with_reducible refine Kd.C_drewN ?_ _) | (with_reducible refine Kd.C_drew ?_))); (case side2 => exact (Kd.R_reads' HO_559000.out).2.1); intro w31 hb; replace HO_559000 := rb HO_559000 hb; replace BK558 := kb BK558 hb; replace HB := bs HB hb; (try clear hb)) | (refine gM (some 50) Try.func80 #[.slice A0 l0.length c0] (epactref22_End.calls kj5 _ _ l0 t561 true _ ?side1 ?side2 A20.out) ?_; (case side1 => exact cb HR0 HB); (case side2 => exact HC0.out); intro w32 hb; replace HO_559000 := rb HO_559000 hb; replace BK558 := kb BK558 hb; replace HB := bs HB hb; (try clear hb)))
        go_ret2
        exact fi HB
      ·replace c21 := Bool.eq_false_iff.mpr c21
       subst c21
       rw [if_neg (show ¬ (false = true) by decide)] at H
       simp only [Option.some.injEq, Prod.mk.injEq] at H
       obtain ⟨rfl, rfl⟩ := H
       have hcz33_0 := bc BK558 0
       have hcz33_1 := bc BK558 1
       have hcz33_2 := bc BK558 2
       have hfz33_0 := bf BK558 0
       have hfz33_1 := bf BK558 1
       have hfz33_2 := bf BK558 2
       go_wp2_with (first | (refine gM (some 37) Try.func72 #[.agg #[.slice Ao9 t552.length co9, .bool t555, .int .i64 t556], .int .i64 a1] (epactref09_Length.calls kj5 _ _ t552 t555 t556 a1 t559 _ ?side1 ?side2 A15.out) ?_; (case side1 => repeat (first | exact (Kd.R_reads' HO_559000.out).2.2 | (with_reducible refine Kd.C_alloc ?_ _) | (with_reducible refine Kd.C_drewN ?_ _) | (with_reducible refine Kd.C_drew ?_))); (case side2 => exact (Kd.R_reads' HO_559000.out).2.1); intro w34 hb; replace HO_559000 := rb HO_559000 hb; replace BK558 := kb BK558 hb; replace HB := bs HB hb; (try clear hb); have hcz35_0 := bc BK558 0; have hcz35_1 := bc BK558 1; have hcz35_2 := bc BK558 2; have hfz35_0 := bf BK558 0; have hfz35_1 := bf BK558 1; have hfz35_2 := bf BK558 2) | (refine gM (some 44) Try.func93 #[.agg #[.slice Ao9 t552.length co9, .bool t555, .int .i64 t556], .int .i64 a1] (epactref09_Total.calls kj5 _ _ t552 t555 t556 a1 t560 _ ?side1 ?side2 A19.out) ?_; (case side1 => repeat (first | exact (Kd.R_reads' HO_559000.out).2.2 | (with_reducible refine Kd.C_alloc ?_ _) | (with_reducible refine Kd.C_drewN ?_ _) | (with_reducible refine Kd.C_drew ?_))); (case side2 => exact (Kd.R_reads' HO_559000.out).2.1); intro w36 hb; replace HO_559000 := rb HO_559000 hb; replace BK558 := kb BK558 hb; replace HB := bs HB hb; (try clear hb)) | (refine gM (some 50) Try.func80 #[.slice A0 l0.length c0] (epactref22_End.calls kj5 _ _ l0 t561 false _ ?side1 ?side2 A20.out) ?_; (case side1 => exact cb HR0 HB); (case side2 => exact HC0.out); intro w37 hb; replace HO_559000 := rb HO_559000 hb; replace BK558 := kb BK558 hb; replace HB := bs HB hb; (try clear hb)))
       go_ret2
       exact fi HB
 ·replace c5 := Bool.eq_false_iff.mpr c5
  subst c5
  rw [if_neg (show ¬ (false = true) by decide)] at H
  simp only [Option.some.injEq, Prod.mk.injEq] at H
  obtain ⟨rfl, rfl⟩ := H
  go_enter Try.func71, Try.ntmps71
  go_wp2_with (first | (refine gL (some 15) Try.func70 #[.slice A0 l0.length c0] ?_; (with_reducible refine (epactref22_table.calls k _ _ l0 t552 t555 t556 false _ ?side1 ?side2 A4.out).mono ?_); (case side1 => exact ca HR0); (case side2 => exact HC0.out); rintro e w38 ⟨v553, rfl, ho0, hb⟩; refine ⟨_, rfl, ?_⟩; have HO554 := lw ho0 HB; replace HB := bs HB hb; (try clear hb); (try clear ho0)) | (refine bx 8 #[.slice none 0 0, .bool false, .int .i64 0] 44 ?_; intro gb558 hg w39 hbox hb; have n2_ := Aside0.mk (hbox); have GW558 := gw HB hg; have GE558 := gw HB hg; replace HO554 := rb HO554 hb; replace HB := bs HB hb; have BK558 := n2_; clear n2_; clear hb hbox hg; obtain ⟨Ao40, co40, eo40⟩ := Kd.R_slice HO554.out; subst eo40; have hcz41_0 := bc BK558 0; have hcz41_1 := bc BK558 1; have hcz41_2 := bc BK558 2; have hfz41_0 := bf BK558 0; have hfz41_1 := bf BK558 1; have hfz41_2 := bf BK558 2))
  go_ret2
  exact fi HB

/-! ### epactref22_Length: function 35 -/
def epactref22_Length.j0 : Nat → List (S53) → Int → Int → Bool → Option (Int × Int)
 | 0, _, _, _, _ => none
 | k + 1, x0, x1, x7, x21 => if x21 = true then (some (0, x7)) else ((epactref22_table.f k x0).bind fun bt565 => ((epactref09_Length.f k bt565.1 bt565.2.1 bt565.2.2.1 x1).bind fun t572 => (some (t572, 0))))
def epactref22_Length.f (k : Nat) (l0 : List (S53)) (a1 : Int) : Option (Int × Int) := (epactref22_Tai.f k l0 a1 0).bind fun bt563 => (if bt563.2 = 0 then (epactref22_Length.j0 k l0 a1 bt563.2 false) else (epactref22_Length.j0 k l0 a1 bt563.2 (bt563.2 != 10)))
theorem epactref22_Length.mono_l : ∀ k, (∀ y0 y1 y2 y3, LeO (epactref22_Length.j0 k y0 y1 y2 y3) (epactref22_Length.j0 (k + 1) y0 y1 y2 y3))
 | 0 => fun _ _ _ _ r h => by simp [epactref22_Length.j0] at h
 | k + 1 => by
  have ih0 := epactref22_Length.mono_l k
  ·intro y0 y1 y2 y3
   unfold epactref22_Length.j0
   repeat' first
   | (with_reducible exact ih0 _ _ _ _)
   | (with_reducible exact epactref09_Length.mono _ _ _ _ _)
   | (with_reducible exact epactref22_Tai.mono _ _ _ _)
   | (with_reducible exact epactref22_table.mono _ _)
   | (with_reducible exact LeO.refl _)
   | (with_reducible exact LeO.none _)
   | (with_reducible refine LeO.ite ?_ ?_)
   | (with_reducible refine LeO.bind ?_ (fun _ => ?_))
theorem epactref22_Length.mono : ∀ a0 a1 k, LeO (epactref22_Length.f k a0 a1) (epactref22_Length.f (k + 1) a0 a1) := by
 intro a0 a1 k
 have ih0 := epactref22_Length.mono_l k
 unfold epactref22_Length.f
 repeat' first
   | (with_reducible exact ih0 _ _ _ _)
   | (with_reducible exact epactref09_Length.mono _ _ _ _ _)
   | (with_reducible exact epactref22_Tai.mono _ _ _ _)
   | (with_reducible exact epactref22_table.mono _ _)
   | (with_reducible exact LeO.refl _)
   | (with_reducible exact LeO.none _)
   | (with_reducible refine LeO.ite ?_ ?_)
   | (with_reducible refine LeO.bind ?_ (fun _ => ?_))
set_option maxHeartbeats 8000000 in
set_option maxRecDepth 100000 in
theorem epactref22_Length.calls (k : Nat) (A0 : Option Addr) (c0 : Nat) (l0 : List (S53)) (a1 : Int) (r1 : Int) (r2 : Int) (w : World) (hr0 : Kd.C k53 w A0 l0.length l0) (hc0 : l0.length ≤ c0) (h : epactref22_Length.f k l0 a1 = some (r1, r2)) :
  Calls Try.prog 35 #[.slice A0 l0.length c0, .int .i64 a1] w fun e w' => e = .returned (.tuple #[.int .i64 r1, .int .i64 r2]) ∧ Below w.heap.size w w' := by
 have hu44 := Try.underlying44
 have HR0 := Aside0.mk hr0
 have HC0 := Aside0.mk hc0
 clear hr0 hc0
 have HB := Aside0.mk (Below.refl w.heap.size w)
 have H : ((epactref22_Tai.f k l0 a1 0).bind fun bt563 => (if bt563.2 = 0 then (epactref22_Length.j0 k l0 a1 bt563.2 false) else (epactref22_Length.j0 k l0 a1 bt563.2 (bt563.2 != 10)))) = some (r1, r2) := h
 clear h
 obtain ⟨⟨t563, t564⟩, A3, H⟩ := bnd H
 try dsimp only at H
 have HC4 := Aside0.mk H
 clear H
 go_enter Try.func35, Try.ntmps35
 go_upto_region 2 with (first | (refine gM (some 13) Try.func71 #[.slice A0 l0.length c0, .int .i64 a1, .int .i64 0] (epactref22_Tai.calls k _ _ l0 a1 0 t563 t564 _ ?side1 ?side2 A3.out) ?_; (case side1 => exact ca HR0); (case side2 => exact HC0.out); intro w5 hb; replace HB := bs HB hb; (try clear hb)))
 (try simp only [Act.put, List.setIfInBounds_toArray, List.set_cons_zero, List.set_cons_succ])
 go_cut [21] (fun v21 wc => ∃ (kq : Nat) (x21_3 : Bool), v21 = .bool x21_3 ∧ Aside0 (epactref22_Length.j0 kq l0 a1 t564 x21_3 = some (r1, r2)) ∧ Aside0 (kq ≤ k) ∧ Aside0 (Below w.heap.size w wc))
 case first =>
  have H := HC4.out
  clear HC4
  by_cases c6 : t564 = 0
  ·rw [if_pos c6] at H
   have c6b0 : (t564 == 0) = true := beq_iff_eq.mpr c6
   have c6b1 : (t564 != 0) = false := bne_eq_false_iff_eq.mpr c6
   clear c6
   (first | rw [c6b0] | (simp only [i64_w, i32_w]; rw [c6b0]) | skip)
   have H' := Aside0.mk H
   clear H
   go_wp2
   go_meet
   case rel => exact ⟨_, (false), pr, H', om, ba HB⟩
  ·rw [if_neg c6] at H
   have c6b0 : (t564 == 0) = false := beq_eq_false_iff_ne.mpr c6
   have c6b1 : (t564 != 0) = true := bne_iff_ne.mpr c6
   (first | rw [c6b0] | (simp only [i64_w, i32_w]; rw [c6b0]) | skip)
   have H' := Aside0.mk H
   clear H
   go_wp2
   go_meet
   case rel => exact ⟨_, ((t564 != 10)), pr, H', om, ba HB⟩
 case rest =>
  clear HC4
  try clear p2
  try clear c3
  try clear c6
  try clear c6b0
  try clear c6b1
  obtain ⟨kq, x21_3, rfl, HA, HJ3, HB⟩ := hcut
  cases kq with
  | zero => exact absurd HA.out (by simp [epactref22_Length.j0])
  | succ kj3 =>
   have H := HA.out
   clear HA
   simp only [epactref22_Length.j0] at H
   by_cases c7 : x21_3 = true
   ·subst c7
    rw [if_pos rfl] at H
    simp only [Option.some.injEq, Prod.mk.injEq] at H
    obtain ⟨rfl, rfl⟩ := H
    go_wp2
    go_ret2
    exact fi HB
   ·replace c7 := Bool.eq_false_iff.mpr c7
    subst c7
    rw [if_neg (show ¬ (false = true) by decide)] at H
    obtain ⟨⟨t565, t568, t569, t570⟩, A8, H⟩ := bnd H
    try dsimp only at H
    obtain ⟨t572, A9, H⟩ := bnd H
    try dsimp only at H
    simp only [Option.some.injEq, Prod.mk.injEq] at H
    obtain ⟨rfl, rfl⟩ := H
    go_wp2_with (first | (refine gL (some 25) Try.func70 #[.slice A0 l0.length c0] ?_; (with_reducible refine (epactref22_table.calls kj3 _ _ l0 t565 t568 t569 t570 _ ?side1 ?side2 A8.out).mono ?_); (case side1 => exact cb HR0 HB); (case side2 => exact HC0.out); rintro e w10 ⟨v566, rfl, ho0, hb⟩; refine ⟨_, rfl, ?_⟩; have HO567 := lw ho0 HB; replace HB := bs HB hb; (try clear hb); (try clear hb2); (try clear hk); (try clear hi); (try clear ho0)) | (refine bx 8 #[.slice none 0 0, .bool false, .int .i64 0] 44 ?_; intro gb571 hg w11 hbox hb; have n2_ := Aside0.mk (hbox); have GW571 := gw HB hg; have GE571 := gw HB hg; replace HO567 := rb HO567 hb; replace HB := bs HB hb; have BK571 := n2_; clear n2_; clear hb hbox hg; obtain ⟨Ao12, co12, eo12⟩ := Kd.R_slice HO567.out; subst eo12; have hcz13_0 := bc BK571 0; have hcz13_1 := bc BK571 1; have hcz13_2 := bc BK571 2; have hfz13_0 := bf BK571 0; have hfz13_1 := bf BK571 1; have hfz13_2 := bf BK571 2) | (refine gM (some 30) Try.func72 #[.agg #[.slice Ao12 t565.length co12, .bool t568, .int .i64 t569], .int .i64 a1] (epactref09_Length.calls kj3 _ _ t565 t568 t569 a1 t572 _ ?side1 ?side2 A9.out) ?_; (case side1 => refine (Kd.R_reads' (e := 49) (base := w.heap.size) (ok := fun k_ => True) (n := t565.length) (c := co12) ?_).2.2; exact (by (with_reducible repeat (first | apply Kd.R_alloc | apply Kd.R_drewN | apply Kd.R_drew)); exact (Kd.R_mono (Kd.R_far (p := ⟨gb571, 2, none⟩) (Kd.R_far (p := ⟨gb571, 1, none⟩) (Kd.R_far (p := ⟨gb571, 0, none⟩) (Kd.R_types HO567.out BK571.out (by decide)) (fun _ hk => hk.2) (.slice Ao12 t565.length co12)) (fun _ hk => hk.2) (.bool t568)) (fun _ hk => hk.2) (.int .i64 t569)) (fun _ h_ => h_.1)))); (case side2 => exact (Kd.R_reads' HO567.out).2.1); intro w14 hb; have n0_ := Aside0.mk (Kd.R_below (by (with_reducible repeat (first | apply Kd.R_alloc | apply Kd.R_drewN | apply Kd.R_drew)); exact (Kd.R_mono (Kd.R_far (p := ⟨gb571, 2, none⟩) (Kd.R_far (p := ⟨gb571, 1, none⟩) (Kd.R_far (p := ⟨gb571, 0, none⟩) (Kd.R_types HO567.out BK571.out (by decide)) (fun _ hk => hk.2) (.slice Ao12 t565.length co12)) (fun _ hk => hk.2) (.bool t568)) (fun _ hk => hk.2) (.int .i64 t569)) (fun _ h_ => h_.1))) hb); have n1_ := Aside0.mk (blk_below (g := gb571) (o := .cells #[.slice Ao12 t565.length co12, .bool t568, .int .i64 t569] 44 (0, 0)) (by (with_reducible repeat (first | refine blk_drewN ?_ _ | refine blk_drew ?_ | refine blk_alloc ?_ _)); refine blk_put (cs := #[.slice Ao12 t565.length co12, .bool t568, .int .i64 0]) ?_ 2 _ rfl; (with_reducible repeat (first | refine blk_drewN ?_ _ | refine blk_drew ?_ | refine blk_alloc ?_ _)); refine blk_put (cs := #[.slice Ao12 t565.length co12, .bool false, .int .i64 0]) ?_ 1 _ rfl; (with_reducible repeat (first | refine blk_drewN ?_ _ | refine blk_drew ?_ | refine blk_alloc ?_ _)); refine blk_put (cs := #[.slice none 0 0, .bool false, .int .i64 0]) ?_ 0 _ rfl; (with_reducible repeat (first | refine blk_drewN ?_ _ | refine blk_drew ?_ | refine blk_alloc ?_ _)); exact BK571.out) hb); replace HB := bs HB hb; clear HO567; clear BK571; have HO567 := n0_; have BK571 := n1_; clear n0_ n1_; (try clear hb); (try clear hb2); (try clear hk); (try clear hi)))
    go_ret2
    exact fi HB

/-! ### epactref25_bare: function 73 -/
def epactref25_bare.f (l0 : List (S53)) : Option ((List (S53))) := (epactref12_Expiry.f l0).bind fun bt573 => (if bt573.2 = true then (if 0 ≤ (wrap64 ((l0.length : Int) - 1)) then (if (wrap64 ((l0.length : Int) - 1)) ≤ (l0.length : Int) then (some (l0.take ((wrap64 ((l0.length : Int) - 1)) : Int).toNat)) else (none)) else (none)) else (some l0))
set_option maxHeartbeats 8000000 in
set_option maxRecDepth 100000 in
theorem epactref25_bare.calls (P0_ : Nat → Prop) (A0 : Option Addr) (c0 : Nat) (l0 : List (S53)) (r : List (S53)) (w : World) (hs0 : Kd.V k53 53 w w.heap.size (fun k_ => P0_ k_) (.slice A0 l0.length c0) l0) (h : epactref25_bare.f l0 = some r) :
  Calls Try.prog 73 #[.slice A0 l0.length c0] w fun e w' => ∃ v0_ : Value, e = .returned (v0_) ∧ Kd.V k53 53 w' w.heap.size (fun k_ => (P0_ k_ ∨ w.heap.size ≤ k_)) v0_ r ∧ Below w.heap.size w w' := by
 have HO0 := Aside0.mk (show Kd.V k53 53 w w.heap.size (fun k_ => (P0_ k_ ∨ w.heap.size ≤ k_)) (.slice A0 l0.length c0) l0 from Kd.V_mono hs0 (fun k_ hk => .inl hk))
 have HB := Aside0.mk (Below.refl w.heap.size w)
 have H : ((epactref12_Expiry.f l0).bind fun bt573 => (if bt573.2 = true then (if 0 ≤ (wrap64 ((l0.length : Int) - 1)) then (if (wrap64 ((l0.length : Int) - 1)) ≤ (l0.length : Int) then (some (l0.take ((wrap64 ((l0.length : Int) - 1)) : Int).toNat)) else (none)) else (none)) else (some l0))) = some r := h
 clear h
 obtain ⟨⟨t573, t574⟩, A2, H⟩ := bnd H
 try dsimp only at H
 by_cases c3 : t574 = true
 ·subst c3
  rw [if_pos rfl] at H
  obtain ⟨ji4, hji4⟩ : ∃ j_ : Int, (wrap64 ((l0.length : Int) - 1)) = j_ := ⟨_, rfl⟩
  replace H : (if 0 ≤ (ji4) then (if (ji4) ≤ (l0.length : Int) then (some (l0.take ((ji4) : Int).toNat)) else (none)) else (none)) = some r := by first | (rw [hji4] at H; exact H) | (simp only [hji4] at H ⊢; exact H)
  (try rw [hji4] at A2)
  have hji4w : (IntKind.i64.wrap ((l0.length : Int) - 1)) = ji4 := (i64_w _).trans hji4
  by_cases c5 : 0 ≤ (ji4)
  ·rw [if_pos c5] at H
   have c5b0 := eq_true c5
   have c5b1 : decide (0 ≤ (ji4)) = true := decide_eq_true c5
   clear c5
   by_cases c6 : (ji4) ≤ (l0.length : Int)
   ·rw [if_pos c6] at H
    have c6b0 := eq_true c6
    have c6b1 : decide ((ji4) ≤ (l0.length : Int)) = true := decide_eq_true c6
    clear c6
    obtain ⟨y575, hy575⟩ : ∃ y_ : List (S53), y_ = (l0.take ((ji4) : Int).toNat) := ⟨_, rfl⟩
    replace H : (some y575) = some r := by first | (rw [hy575]; with_reducible exact H) | (have H2_ := (Option.bind_some _ _).symm.trans H; rw [hy575]; with_reducible exact H2_) | (have H2_ := (Option.bind_some _ _).symm.trans H; with_reducible exact H2_) | with_reducible exact H | (rw [hy575]; exact H) | exact H
    have Ny575 := Aside0.mk hy575
    clear hy575
    obtain rfl := Option.some.inj H
    go_enter Try.func73, Try.ntmps73
    go_wp2_with (first | (refine gN (some 7) Try.func95 #[.slice A0 l0.length c0] (epactref12_Expiry.calls _ _ l0 t573 true _ ?side1 ?side2 A2.out) ?_; (case side1 => repeat (first | exact (Kd.V_reads' HO0.out).2.2 | (with_reducible refine Kd.C_alloc ?_ _) | (with_reducible refine Kd.C_drewN ?_ _) | (with_reducible refine Kd.C_drew ?_))); (case side2 => exact (Kd.V_reads' HO0.out).2.1); intro nd; have q7 : ((ji4) : Int) ≤ ((l0.length : Int) : Int) := pa; obtain ⟨i07, hi07, _, hsz7, _⟩ := info_parts info53; have hroom7 : l0.length ≤ c0 := (Kd.V_reads' HO0.out).2.1; have hC7 : Kd.F k53 _ _ A0 l0.length l0 := (Kd.V_at (base := w.heap.size) HO0.out).2.2; have hcut7 := cut_to (P := Try.prog) 22 53 .i64 Try.underlying22 hi07 A0 l0.length c0 (ji4) (pa) q7 hroom7; have hr7 := Kd.F_take (m := ((ji4) : Int).toNat) hC7 (by omega); have hy7 : y575.length = ((ji4) : Int).toNat := (by rw [Ny575.out, List.length_take]; omega); rw [← Ny575.out] at hr7; rw [← hy7] at hcut7; have HO579 := Aside0.mk (show Kd.V k53 53 _ w.heap.size _ (.slice A0 y575.length c0) y575 from Kd.V_mk (by omega) hr7); have HC579 := Aside0.mk (show y575.length ≤ c0 from by omega); clear hr7 hC7 hroom7 hi07 hsz7; have KY7 := Aside0.mk hy7; clear hy7; replace q7 := eq_true q7))
    go_ret
    exact ⟨_, by first | rfl | (simp [errW_none, errW_some] <;> rfl) | (simp only [← hji4]; first | rfl | (simp [errW_none, errW_some] <;> rfl)) | (simp [*, errW_none, errW_some] <;> rfl), by (with_reducible repeat (first | apply Kd.V_alloc | apply Kd.V_drewN | apply Kd.V_drew)); exact HO579.out, by repeat (first | (with_reducible first | exact HB.out | apply below_alloc | apply pw_below_drewN | apply below_drew1) | exact HB.out)⟩
   ·rw [if_neg c6] at H
    exact absurd H (by simp)
  ·rw [if_neg c5] at H
   exact absurd H (by simp)
 ·replace c3 := Bool.eq_false_iff.mpr c3
  subst c3
  rw [if_neg (show ¬ (false = true) by decide)] at H
  obtain rfl := Option.some.inj H
  go_enter Try.func73, Try.ntmps73
  go_wp2_with (first | (refine gN (some 7) Try.func95 #[.slice A0 l0.length c0] (epactref12_Expiry.calls _ _ l0 t573 false _ ?side1 ?side2 A2.out) ?_; (case side1 => repeat (first | exact (Kd.V_reads' HO0.out).2.2 | (with_reducible refine Kd.C_alloc ?_ _) | (with_reducible refine Kd.C_drewN ?_ _) | (with_reducible refine Kd.C_drew ?_))); (case side2 => exact (Kd.V_reads' HO0.out).2.1); intro nd))
  go_ret
  exact ⟨_, by first | rfl | (simp [errW_none, errW_some] <;> rfl) | (simp [*, errW_none, errW_some] <;> rfl), by (with_reducible repeat (first | apply Kd.V_alloc | apply Kd.V_drewN | apply Kd.V_drew)); exact HO0.out, by repeat (first | (with_reducible first | exact HB.out | apply below_alloc | apply pw_below_drewN | apply below_drew1) | exact HB.out)⟩

end Go.Proofs.Ythoigncoojcanaa.PAll
