-- Written for this claim by wip/tools of this repo (after the kit's print; own contracts laid in).
import Derived.Test.YthoigncoojcanaaPAllx0
import Derived.Test.YthoigncoojcanaaShort
import Derived.Test.YthoigncoojcanaaPAllx19
import Derived.Test.YthoigncoojcanaaPAllx20
namespace Go.Proofs.Ythoigncoojcanaa.PAll
open Go.RowKit Go.Proofs.YthoigncoojcanaaW.PrintWords Go.Proofs.YthoigncoojcanaaW.PrintLast Go.Proofs.YthoigncoojcanaaW.PrintMore
attribute [local go_sem] max2_int min2_int max_two min_two max_three min_three max_four min_four   -- for this text's walks alone
set_option linter.unusedVariables false
set_option linter.unusedSimpArgs false

/-! ### epactref12_Table: function 79 -/
def epactref12_Table.l0 : Nat → List (S53) → Int → Int → Int → List (S49) → Bool → Int → Option ((List (S49)) × Bool × Int × Bool)
 | 0, _, _, _, _, _, _, _ => none
 | k + 1, x0, x5, x6, x7, x481000, x481001, x481002 => if x7 < x5 then (if 0 ≤ x7 then (if x7 < (x0.length : Int) then (if (wrap64 (((rd_T53 x0 x7).f1) - x6)) < 0 then ((epactref01_Div.f (wrap64 ((wrap64 (((rd_T53 x0 x7).f0) - x6)) + 1)) 86400).bind fun bt484 => (if bt484.2.1 = 0 then (if x481000.length < 5864062014805 then (epactref12_Table.l0 k x0 x5 ((rd_T53 x0 x7).f1) (wrap64 (x7 + 1)) (x481000 ++ [(⟨wrap64 (bt484.1 - 1), wrap64 (((rd_T53 x0 x7).f1) - x6), false⟩ : S49)]) x481001 x481002) else (none)) else (some (([] : List (S49)), false, 0, false)))) else ((epactref01_Div.f (wrap64 (((rd_T53 x0 x7).f0) - x6)) 86400).bind fun bt491 => (if bt491.2.1 = 0 then (if x481000.length < 5864062014805 then (epactref12_Table.l0 k x0 x5 ((rd_T53 x0 x7).f1) (wrap64 (x7 + 1)) (x481000 ++ [(⟨wrap64 (bt491.1 - 1), wrap64 (((rd_T53 x0 x7).f1) - x6), false⟩ : S49)]) x481001 x481002) else (none)) else (some (([] : List (S49)), false, 0, false))))) else (none)) else (none)) else (if x5 < (x0.length : Int) then (if 0 ≤ x5 then ((epactref09_Right.f k x481000 true (wrap64 (((rd_T53 x0 x5).f0) - x6))).bind fun t499 => (if t499 = true then (some (x481000, true, wrap64 (((rd_T53 x0 x5).f0) - x6), true)) else (some (([] : List (S49)), false, 0, false)))) else (none)) else ((epactref09_Right.f k x481000 x481001 x481002).bind fun t500 => (if t500 = true then (some (x481000, x481001, x481002, true)) else (some (([] : List (S49)), false, 0, false)))))
def epactref12_Table.f (k : Nat) (l0 : List (S53)) : Option ((List (S49)) × Bool × Int × Bool) := (epactref12_leaps.f l0).bind fun t481 => (epactref12_Table.l0 k l0 t481 0 0 ([] : List (S49)) false 0)
theorem epactref12_Table.mono_l : ∀ k, (∀ y0 y1 y2 y3 y4 y5 y6, LeO (epactref12_Table.l0 k y0 y1 y2 y3 y4 y5 y6) (epactref12_Table.l0 (k + 1) y0 y1 y2 y3 y4 y5 y6))
 | 0 => fun _ _ _ _ _ _ _ r h => by simp [epactref12_Table.l0] at h
 | k + 1 => by
  have ih0 := epactref12_Table.mono_l k
  ·intro y0 y1 y2 y3 y4 y5 y6
   unfold epactref12_Table.l0
   repeat' first
   | (with_reducible exact ih0 _ _ _ _ _ _ _)
   | (with_reducible exact epactref09_Right.mono _ _ _ _)
   | (with_reducible exact LeO.refl _)
   | (with_reducible exact LeO.none _)
   | (with_reducible refine LeO.ite ?_ ?_)
   | (with_reducible refine LeO.bind ?_ (fun _ => ?_))
theorem epactref12_Table.mono : ∀ a0 k, LeO (epactref12_Table.f k a0) (epactref12_Table.f (k + 1) a0) := by
 intro a0 k
 have ih0 := epactref12_Table.mono_l k
 unfold epactref12_Table.f
 repeat' first
   | (with_reducible exact ih0 _ _ _ _ _ _ _)
   | (with_reducible exact epactref09_Right.mono _ _ _ _)
   | (with_reducible exact LeO.refl _)
   | (with_reducible exact LeO.none _)
   | (with_reducible refine LeO.ite ?_ ?_)
   | (with_reducible refine LeO.bind ?_ (fun _ => ?_))
set_option maxHeartbeats 8000000 in
set_option maxRecDepth 100000 in
theorem epactref12_Table.calls (k : Nat) (A0 : Option Addr) (c0 : Nat) (l0 : List (S53)) (r1 : List (S49)) (r2 : Bool) (r3 : Int) (r4 : Bool) (w : World) (hr0 : Kd.C k53 w A0 l0.length l0) (hc0 : l0.length ≤ c0) (h : epactref12_Table.f k l0 = some (r1, r2, r3, r4)) :
  Calls Try.prog 79 #[.slice A0 l0.length c0] w fun e w' => ∃ v0_ : Value, e = .returned (.tuple #[.agg #[v0_, .bool r2, .int .i64 r3], .bool r4]) ∧ Kd.R k49 49 w' w.heap.size (fun _ => True) v0_ r1 ∧ Below w.heap.size w w' := by
 have hu44 := Try.underlying44
 have hu49 := Try.underlying49
 have HR0 := Aside0.mk hr0
 have HC0 := Aside0.mk hc0
 clear hr0 hc0
 have HB := Aside0.mk (Below.refl w.heap.size w)
 have H : ((epactref12_leaps.f l0).bind fun t481 => (epactref12_Table.l0 k l0 t481 0 0 ([] : List (S49)) false 0)) = some (r1, r2, r3, r4) := h
 clear h
 obtain ⟨t481, A2, H⟩ := bnd H
 try dsimp only at H
 have H' := Aside0.mk H
 clear H
 go_enter Try.func79, Try.ntmps79
 go_wp2_with (first | (refine bx 2 #[.slice none 0 0, .bool false, .int .i64 0] 44 ?_; intro gb479 hg w3 hbox hb; have n1_ := Aside0.mk (hbox); have GW479 := gw HB hg; have GE479 := gw HB hg; replace HB := bs HB hb; have BK479 := n1_; clear n1_; clear hb hbox hg) | (refine bx 4 #[.slice none 0 0, .bool false, .int .i64 0] 44 ?_; intro gb480 hg w4 hbox hb; have n2_ := Aside0.mk (hbox); have GW480 := gw HB hg; have GE480 := gw HB hg; have NB479_480 := nl BK479 hg; have NB480_479 := nr BK479 hg; replace BK479 := kb BK479 hb; replace HB := bs HB hb; have BK480 := n2_; clear n2_; clear hb hbox hg) | (refine gN (some 14) Try.func99 #[.slice A0 l0.length c0] (epactref12_leaps.calls _ _ l0 t481 _ ?side1 ?side2 A2.out) ?_; (case side1 => exact cb HR0 HB); (case side2 => exact HC0.out); intro nd))
 go_loopg [6, 7] k (fun kq v6 v7 w' => ∃ (x6_1 : Int) (x7_1 : Int) (x480001_1 : Bool) (x480002_1 : Int) (x481000_1 : List (S49)) (u481000 : Value), v6 = .int .i64 x6_1 ∧ v7 = .int .i64 x7_1 ∧ Aside0 (epactref12_Table.l0 kq l0 t481 x6_1 x7_1 x481000_1 false 0 = some (r1, r2, r3, r4)) ∧ Aside0 (kq ≤ k) ∧ Aside0 (Kd.R k49 49 w' w.heap.size (fun _ => True) u481000 x481000_1) ∧ Aside0 (w'.heap[gb479]? = some (.cells #[(.slice none 0 0), .bool x480001_1, .int .i64 x480002_1] 44 (0, 0))) ∧ Aside0 (w'.heap[gb480]? = some (.cells #[u481000, .bool false, .int .i64 0] 44 (0, 0))) ∧ Aside0 (Below w.heap.size w w'))
 case atStart => exact ⟨(0), (0), (false), (0), (([] : List (S49))), (.slice none 0 0), pr, pr, H', ⟨Nat.le_refl _⟩, ⟨by first | exact Kd.R_nil _ _ _ _ _ | exact Kd.N_nil _ _ _ _ _ | exact Kd.V_nil _ _ _ _ _ | exact Kd.Q_nil _ _ _ _ _ | exact Kd.S_nil _ _ _ _ _⟩, ka BK479, ka BK480, ba HB⟩
 case round =>
  clear H'
  try clear p2
  obtain ⟨x6_1, x7_1, x480001_1, x480002_1, x481000_1, u481000, rfl, rfl, HA, HK1, HO_481000, BK479, BK480, HB⟩ := hrel
  cases gk with
  | zero => exact absurd HA.out (by simp [epactref12_Table.l0])
  | succ k1 =>
   have H := HA.out
   clear HA
   simp only [epactref12_Table.l0] at H
   by_cases c5 : x7_1 < t481
   ·rw [if_pos c5] at H
    have c5b0 : decide (x7_1 < t481) = true := decide_eq_true c5
    clear c5
    by_cases c6 : 0 ≤ x7_1
    ·rw [if_pos c6] at H
     have c6b0 : decide (0 ≤ x7_1) = true := decide_eq_true c6
     clear c6
     by_cases c7 : x7_1 < (l0.length : Int)
     ·rw [if_pos c7] at H
      have c7b0 : decide (x7_1 < (l0.length : Int)) = true := decide_eq_true c7
      clear c7
      by_cases c8 : (wrap64 (((rd_T53 l0 x7_1).f1) - x6_1)) < 0
      ·rw [if_pos c8] at H
       have c8b0 : decide ((wrap64 (((rd_T53 l0 x7_1).f1) - x6_1)) < 0) = true := decide_eq_true c8
       clear c8
       obtain ⟨⟨t484, t485, t486⟩, A9, H⟩ := bnd H
       try dsimp only at H
       by_cases c10 : t485 = 0
       ·rw [if_pos c10] at H
        have c10b0 : (t485 == 0) = true := beq_iff_eq.mpr c10
        have c10b1 : (t485 != 0) = false := bne_eq_false_iff_eq.mpr c10
        clear c10
        by_cases c11 : x481000_1.length < 5864062014805
        ·rw [if_pos c11] at H
         have LMc11 := Aside0.mk c11
         clear c11
         obtain ⟨y487, hy487⟩ : ∃ y_ : List (S49), y_ = (x481000_1 ++ [(⟨wrap64 (t484 - 1), wrap64 (((rd_T53 l0 x7_1).f1) - x6_1), false⟩ : S49)]) := ⟨_, rfl⟩
         replace H : (epactref12_Table.l0 k1 l0 t481 ((rd_T53 l0 x7_1).f1) (wrap64 (x7_1 + 1)) y487 false 0) = some (r1, r2, r3, r4) := by first | (rw [hy487]; with_reducible exact H) | (have H2_ := (Option.bind_some _ _).symm.trans H; rw [hy487]; with_reducible exact H2_) | (have H2_ := (Option.bind_some _ _).symm.trans H; with_reducible exact H2_) | with_reducible exact H | (rw [hy487]; exact H) | exact H
         have Ny487 := Aside0.mk hy487
         clear hy487
         have H' := Aside0.mk H
         clear H
         have p482 : 0 ≤ (x7_1 : Int) := pa
         have q482 : x7_1 < (l0.length : Int) := pa
         obtain ⟨ad482, e482, hx482_0, hx482_1⟩ := at_T53 HR0.out x7_1 p482 q482
         cases e482
         replace hx482_0 := hx HB hx482_0
         replace hx482_1 := hx HB hx482_1
         replace p482 := eq_true p482
         replace q482 := eq_true q482
         have p483 : 0 ≤ (x7_1 : Int) := pa
         have q483 : x7_1 < (l0.length : Int) := pa
         obtain ⟨ad483, e483, hx483_0, hx483_1⟩ := at_T53 HR0.out x7_1 p483 q483
         obtain rfl : ad482 = ad483 := (by injection e483)
         replace hx483_0 := hx HB hx483_0
         replace hx483_1 := hx HB hx483_1
         replace p483 := eq_true p483
         replace q483 := eq_true q483
         go_wp2_with (first | (refine gN (some 40) Try.func100 #[.int .i64 (wrap64 ((wrap64 (((rd_T53 l0 x7_1).f0) - x6_1)) + 1)), .int .i64 86400] (epactref01_Div.calls (wrap64 ((wrap64 (((rd_T53 l0 x7_1).f0) - x6_1)) + 1)) 86400 t484 t485 t486 _ A9.out) ?_; intro nd; (try (rw [drewN_self wr]; generalize hq_ : World.drewN wr _ = wr; have n0_ : Aside0 (Kd.R k49 49 wr w.heap.size (fun _ => True) u481000 x481000_1) := ⟨by rw [← hq_]; exact (by (with_reducible repeat (first | apply Kd.R_alloc | apply Kd.R_drewN | apply Kd.R_drew)); exact HO_481000.out)⟩; have n1_ : Aside0 (wr.heap[gb479]? = some (.cells #[.slice none 0 0, .bool x480001_1, .int .i64 x480002_1] 44 (0, 0))) := ⟨by rw [← hq_]; exact (ka BK479).out⟩; have n2_ : Aside0 (wr.heap[gb480]? = some (.cells #[u481000, .bool false, .int .i64 0] 44 (0, 0))) := ⟨by rw [← hq_]; exact (ka BK480).out⟩; have n3_ : Aside0 (Below w.heap.size w wr) := ⟨by rw [← hq_]; exact (by repeat (first | (with_reducible first | exact HB.out | apply below_alloc | apply pw_below_drewN | apply below_drew1 | refine below_set ?_ GE479.out | refine below_set ?_ GE480.out) | exact HB.out))⟩; clear HO_481000 BK479 BK480 HB hq_; have HO_481000 := n0_; have BK479 := n1_; have BK480 := n2_; have HB := n3_; clear n0_ n1_ n2_ n3_)); have hnb12 := NB480_479.out; have hnc12 := NB479_480.out; have hcz13_0 := bc BK480 0; have hcz13_1 := bc BK480 1; have hcz13_2 := bc BK480 2; have hfz13_0 := bf BK480 0; have hfz13_1 := bf BK480 1; have hfz13_2 := bf BK480 2) | ((with_reducible refine gate_builtin (b := .append) (xs := #[.tmp 48, .tmp 53]) rfl ?_); at_builtin; refine Kd.R_append k49 (w0 := w) w.heap.size rfl (.tmp 48) (.tmp 53) 42 49 (.agg #[(.int .i64 0), (.int .i64 0), (.bool false)]) 24 rfl Try.underlying42 info49 rfl (by decide) (by omega) u481000 x481000_1 (⟨wrap64 (t484 - 1), wrap64 (((rd_T53 l0 x7_1).f1) - x6_1), false⟩ : S49) [.int .i64 (wrap64 (t484 - 1)), .int .i64 (wrap64 (((rd_T53 l0 x7_1).f1) - x6_1)), .bool false] (fun _ => True) (fun _ => False) rfl rfl ?aP (fun _ hk => hk.elim) ?aF ?aO ?aB ?aS ?aL ?_; (case aP => exact k49_mkM _ _ _ (⟨wrap64 (t484 - 1), wrap64 (((rd_T53 l0 x7_1).f1) - x6_1), false⟩ : S49)); (case aB => exact (by repeat (first | (with_reducible first | exact HB.out | apply below_alloc | apply pw_below_drewN | apply below_drew1 | refine below_set ?_ GE479.out | refine below_set ?_ GE480.out) | exact HB.out))); (case aF => exact (fun _ _ => trivial)); (case aO => exact (by (with_reducible repeat (first | apply Kd.R_alloc | apply Kd.R_drewN | apply Kd.R_drew)); exact HO_481000.out)); (case aS => exact (below_size (by repeat (first | (with_reducible first | exact HB.out | apply below_alloc | apply pw_below_drewN | apply below_drew1 | refine below_set ?_ GE479.out | refine below_set ?_ GE480.out) | exact HB.out)))); (case aL => have := LMc11.out; omega); intro v488 w14 ho hb hg hat; rw [← Ny487.out] at ho; have n0_ := Aside0.mk (blk_grown (g := gb479) (o := .cells #[.slice none 0 0, .bool x480001_1, .int .i64 x480002_1] 44 (0, 0)) (ka BK479).out hg (Kd.R_ne HO_481000.out BK479.out (by decide))); have n1_ := Aside0.mk (blk_grown (g := gb480) (o := .cells #[u481000, .bool false, .int .i64 0] 44 (0, 0)) (ka BK480).out hg (Kd.R_ne HO_481000.out BK480.out (by decide))); have n2_ := Aside0.mk (hb); have n3_ := Aside0.mk (ho); clear BK479; clear BK480; clear HB; clear HO_481000; have BK479 := n0_; have BK480 := n1_; have HB := n2_; have HO489 := n3_; clear n0_ n1_ n2_ n3_; clear ho hb hg hat; obtain ⟨Ao15, co15, eo15⟩ := Kd.R_slice HO489.out; subst eo15; have hcz16_0 := bc BK480 0; have hcz16_1 := bc BK480 1; have hcz16_2 := bc BK480 2; have hfz16_0 := bf BK480 0; have hfz16_1 := bf BK480 1; have hfz16_2 := bf BK480 2; have p490 : 0 ≤ (x7_1 : Int) := pa; have q490 : x7_1 < (l0.length : Int) := pa; obtain ⟨ad490, e490, hx490_0, hx490_1⟩ := at_T53 HR0.out x7_1 p490 q490; obtain rfl : ad482 = ad490 := (by injection e490); have hn490_0 : ad482.block ≠ gb480 := Nat.ne_of_lt (Nat.lt_of_lt_of_le (by have := World.block_lt_of_cell? _ _ hx490_0; first | rwa [add_block] at this | exact this) GW480.out); replace hx490_0 := hx HB hx490_0; replace hx490_1 := hx HB hx490_1; replace hx490_0 := (cell_far (p := ⟨gb480, 0, none⟩) (by first | (rw [add_block]; exact hn490_0) | (show (Addr.add _ _).block ≠ _; rw [add_block]; exact hn490_0) | exact hn490_0) (.slice Ao15 y487.length co15)).trans hx490_0; replace hx490_1 := (cell_far (p := ⟨gb480, 0, none⟩) (by first | (rw [add_block]; exact hn490_0) | (show (Addr.add _ _).block ≠ _; rw [add_block]; exact hn490_0) | exact hn490_0) (.slice Ao15 y487.length co15)).trans hx490_1; clear hn490_0; replace p490 := eq_true p490; replace q490 := eq_true q490))
         go_roundg k1
         case measure => have := HK1.out; omega
         case rel => exact ⟨((rd_T53 l0 x7_1).f1), (wrap64 (x7_1 + 1)), (x480001_1), (x480002_1), (y487), (.slice Ao15 y487.length co15), pr, pr, H', ⟨by have := HK1.out; omega⟩, ⟨by (with_reducible repeat (first | apply Kd.R_alloc | apply Kd.R_drewN | apply Kd.R_drew)); exact Kd.R_mono (Kd.R_far (p := ⟨gb480, 0, none⟩) (Kd.R_types HO489.out BK480.out (by decide)) (fun _ hk => hk.2) (.slice Ao15 y487.length co15)) (fun _ hk => trivial)⟩, kg BK479, ⟨by (with_reducible repeat (first | refine blk_drewN ?_ _ | refine blk_drew ?_ | refine blk_alloc ?_ _)); refine blk_put (cs := #[u481000, .bool false, .int .i64 0]) ?_ 0 _ rfl; (with_reducible repeat (first | refine blk_drewN ?_ _ | refine blk_drew ?_ | refine blk_alloc ?_ _)); exact BK480.out⟩, ba HB⟩
        ·rw [if_neg c11] at H
         exact absurd H (by simp)
       ·rw [if_neg c10] at H
        have c10b0 : (t485 == 0) = false := beq_eq_false_iff_ne.mpr c10
        have c10b1 : (t485 != 0) = true := bne_iff_ne.mpr c10
        simp only [Option.some.injEq, Prod.mk.injEq] at H
        obtain ⟨rfl, rfl, rfl, rfl⟩ := H
        have p482 : 0 ≤ (x7_1 : Int) := pa
        have q482 : x7_1 < (l0.length : Int) := pa
        obtain ⟨ad482, e482, hx482_0, hx482_1⟩ := at_T53 HR0.out x7_1 p482 q482
        cases e482
        replace hx482_0 := hx HB hx482_0
        replace hx482_1 := hx HB hx482_1
        replace p482 := eq_true p482
        replace q482 := eq_true q482
        have p483 : 0 ≤ (x7_1 : Int) := pa
        have q483 : x7_1 < (l0.length : Int) := pa
        obtain ⟨ad483, e483, hx483_0, hx483_1⟩ := at_T53 HR0.out x7_1 p483 q483
        obtain rfl : ad482 = ad483 := (by injection e483)
        replace hx483_0 := hx HB hx483_0
        replace hx483_1 := hx HB hx483_1
        replace p483 := eq_true p483
        replace q483 := eq_true q483
        go_wp2_with (first | (refine gN (some 40) Try.func100 #[.int .i64 (wrap64 ((wrap64 (((rd_T53 l0 x7_1).f0) - x6_1)) + 1)), .int .i64 86400] (epactref01_Div.calls (wrap64 ((wrap64 (((rd_T53 l0 x7_1).f0) - x6_1)) + 1)) 86400 t484 t485 t486 _ A9.out) ?_; intro nd; (try (rw [drewN_self wr]; generalize hq_ : World.drewN wr _ = wr; have n0_ : Aside0 (Kd.R k49 49 wr w.heap.size (fun _ => True) u481000 x481000_1) := ⟨by rw [← hq_]; exact (by (with_reducible repeat (first | apply Kd.R_alloc | apply Kd.R_drewN | apply Kd.R_drew)); exact HO_481000.out)⟩; have n1_ : Aside0 (wr.heap[gb479]? = some (.cells #[.slice none 0 0, .bool x480001_1, .int .i64 x480002_1] 44 (0, 0))) := ⟨by rw [← hq_]; exact (ka BK479).out⟩; have n2_ : Aside0 (wr.heap[gb480]? = some (.cells #[u481000, .bool false, .int .i64 0] 44 (0, 0))) := ⟨by rw [← hq_]; exact (ka BK480).out⟩; have n3_ : Aside0 (Below w.heap.size w wr) := ⟨by rw [← hq_]; exact (by repeat (first | (with_reducible first | exact HB.out | apply below_alloc | apply pw_below_drewN | apply below_drew1 | refine below_set ?_ GE479.out | refine below_set ?_ GE480.out) | exact HB.out))⟩; clear HO_481000 BK479 BK480 HB hq_; have HO_481000 := n0_; have BK479 := n1_; have BK480 := n2_; have HB := n3_; clear n0_ n1_ n2_ n3_)); have hnb17 := NB479_480.out; have hnc17 := NB480_479.out; have hcz18_0 := bc BK479 0; have hcz18_1 := bc BK479 1; have hcz18_2 := bc BK479 2; have hfz18_0 := bf BK479 0; have hfz18_1 := bf BK479 1; have hfz18_2 := bf BK479 2))
        refine bodyPost_ret (results_ct rfl _ _ gb479 44 #[.slice none 0 0, .bool false, .int .i64 0] (0, 0) _ rfl (by (with_reducible repeat (first | refine blk_drewN ?_ _ | refine blk_drew ?_ | refine blk_alloc ?_ _)); refine blk_put (cs := #[.slice none 0 0, .bool false, .int .i64 x480002_1]) ?_ 2 _ rfl; (with_reducible repeat (first | refine blk_drewN ?_ _ | refine blk_drew ?_ | refine blk_alloc ?_ _)); refine blk_put (cs := #[.slice none 0 0, .bool x480001_1, .int .i64 x480002_1]) ?_ 1 _ rfl; (with_reducible repeat (first | refine blk_drewN ?_ _ | refine blk_drew ?_ | refine blk_alloc ?_ _)); refine blk_put (cs := #[.slice none 0 0, .bool x480001_1, .int .i64 x480002_1]) ?_ 0 _ rfl; (with_reducible repeat (first | refine blk_drewN ?_ _ | refine blk_drew ?_ | refine blk_alloc ?_ _)); exact BK479.out) Try.underlying44 rfl (by kernel_rfl)) rfl ?_
        exact ⟨_, by first | rfl | (simp [errW_none, errW_some] <;> rfl) | (simp [*, errW_none, errW_some] <;> rfl), by first | exact Kd.R_nil _ _ _ _ _ | exact Kd.N_nil _ _ _ _ _ | exact Kd.V_nil _ _ _ _ _ | exact Kd.Q_nil _ _ _ _ _ | exact Kd.S_nil _ _ _ _ _, by repeat (first | (with_reducible first | exact HB.out | apply below_alloc | apply pw_below_drewN | apply below_drew1 | refine below_set ?_ GE479.out | refine below_set ?_ GE480.out) | exact HB.out)⟩
      ·rw [if_neg c8] at H
       have c8b0 : decide ((wrap64 (((rd_T53 l0 x7_1).f1) - x6_1)) < 0) = false := decide_eq_false c8
       clear c8
       obtain ⟨⟨t491, t492, t493⟩, A19, H⟩ := bnd H
       try dsimp only at H
       by_cases c20 : t492 = 0
       ·rw [if_pos c20] at H
        have c20b0 : (t492 == 0) = true := beq_iff_eq.mpr c20
        have c20b1 : (t492 != 0) = false := bne_eq_false_iff_eq.mpr c20
        clear c20
        by_cases c21 : x481000_1.length < 5864062014805
        ·rw [if_pos c21] at H
         have LMc21 := Aside0.mk c21
         clear c21
         obtain ⟨y494, hy494⟩ : ∃ y_ : List (S49), y_ = (x481000_1 ++ [(⟨wrap64 (t491 - 1), wrap64 (((rd_T53 l0 x7_1).f1) - x6_1), false⟩ : S49)]) := ⟨_, rfl⟩
         replace H : (epactref12_Table.l0 k1 l0 t481 ((rd_T53 l0 x7_1).f1) (wrap64 (x7_1 + 1)) y494 false 0) = some (r1, r2, r3, r4) := by first | (rw [hy494]; with_reducible exact H) | (have H2_ := (Option.bind_some _ _).symm.trans H; rw [hy494]; with_reducible exact H2_) | (have H2_ := (Option.bind_some _ _).symm.trans H; with_reducible exact H2_) | with_reducible exact H | (rw [hy494]; exact H) | exact H
         have Ny494 := Aside0.mk hy494
         clear hy494
         have H' := Aside0.mk H
         clear H
         have p482 : 0 ≤ (x7_1 : Int) := pa
         have q482 : x7_1 < (l0.length : Int) := pa
         obtain ⟨ad482, e482, hx482_0, hx482_1⟩ := at_T53 HR0.out x7_1 p482 q482
         cases e482
         replace hx482_0 := hx HB hx482_0
         replace hx482_1 := hx HB hx482_1
         replace p482 := eq_true p482
         replace q482 := eq_true q482
         have p483 : 0 ≤ (x7_1 : Int) := pa
         have q483 : x7_1 < (l0.length : Int) := pa
         obtain ⟨ad483, e483, hx483_0, hx483_1⟩ := at_T53 HR0.out x7_1 p483 q483
         obtain rfl : ad482 = ad483 := (by injection e483)
         replace hx483_0 := hx HB hx483_0
         replace hx483_1 := hx HB hx483_1
         replace p483 := eq_true p483
         replace q483 := eq_true q483
         go_wp2_with (first | (refine gN (some 40) Try.func100 #[.int .i64 (wrap64 (((rd_T53 l0 x7_1).f0) - x6_1)), .int .i64 86400] (epactref01_Div.calls (wrap64 (((rd_T53 l0 x7_1).f0) - x6_1)) 86400 t491 t492 t493 _ A19.out) ?_; intro nd; (try (rw [drewN_self wr]; generalize hq_ : World.drewN wr _ = wr; have n0_ : Aside0 (Kd.R k49 49 wr w.heap.size (fun _ => True) u481000 x481000_1) := ⟨by rw [← hq_]; exact (by (with_reducible repeat (first | apply Kd.R_alloc | apply Kd.R_drewN | apply Kd.R_drew)); exact HO_481000.out)⟩; have n1_ : Aside0 (wr.heap[gb479]? = some (.cells #[.slice none 0 0, .bool x480001_1, .int .i64 x480002_1] 44 (0, 0))) := ⟨by rw [← hq_]; exact (ka BK479).out⟩; have n2_ : Aside0 (wr.heap[gb480]? = some (.cells #[u481000, .bool false, .int .i64 0] 44 (0, 0))) := ⟨by rw [← hq_]; exact (ka BK480).out⟩; have n3_ : Aside0 (Below w.heap.size w wr) := ⟨by rw [← hq_]; exact (by repeat (first | (with_reducible first | exact HB.out | apply below_alloc | apply pw_below_drewN | apply below_drew1 | refine below_set ?_ GE479.out | refine below_set ?_ GE480.out) | exact HB.out))⟩; clear HO_481000 BK479 BK480 HB hq_; have HO_481000 := n0_; have BK479 := n1_; have BK480 := n2_; have HB := n3_; clear n0_ n1_ n2_ n3_)); have hnb22 := NB480_479.out; have hnc22 := NB479_480.out; have hcz23_0 := bc BK480 0; have hcz23_1 := bc BK480 1; have hcz23_2 := bc BK480 2; have hfz23_0 := bf BK480 0; have hfz23_1 := bf BK480 1; have hfz23_2 := bf BK480 2) | ((with_reducible refine gate_builtin (b := .append) (xs := #[.tmp 48, .tmp 53]) rfl ?_); at_builtin; refine Kd.R_append k49 (w0 := w) w.heap.size rfl (.tmp 48) (.tmp 53) 42 49 (.agg #[(.int .i64 0), (.int .i64 0), (.bool false)]) 24 rfl Try.underlying42 info49 rfl (by decide) (by omega) u481000 x481000_1 (⟨wrap64 (t491 - 1), wrap64 (((rd_T53 l0 x7_1).f1) - x6_1), false⟩ : S49) [.int .i64 (wrap64 (t491 - 1)), .int .i64 (wrap64 (((rd_T53 l0 x7_1).f1) - x6_1)), .bool false] (fun _ => True) (fun _ => False) rfl rfl ?aP (fun _ hk => hk.elim) ?aF ?aO ?aB ?aS ?aL ?_; (case aP => exact k49_mkM _ _ _ (⟨wrap64 (t491 - 1), wrap64 (((rd_T53 l0 x7_1).f1) - x6_1), false⟩ : S49)); (case aB => exact (by repeat (first | (with_reducible first | exact HB.out | apply below_alloc | apply pw_below_drewN | apply below_drew1 | refine below_set ?_ GE479.out | refine below_set ?_ GE480.out) | exact HB.out))); (case aF => exact (fun _ _ => trivial)); (case aO => exact (by (with_reducible repeat (first | apply Kd.R_alloc | apply Kd.R_drewN | apply Kd.R_drew)); exact HO_481000.out)); (case aS => exact (below_size (by repeat (first | (with_reducible first | exact HB.out | apply below_alloc | apply pw_below_drewN | apply below_drew1 | refine below_set ?_ GE479.out | refine below_set ?_ GE480.out) | exact HB.out)))); (case aL => have := LMc21.out; omega); intro v495 w24 ho hb hg hat; rw [← Ny494.out] at ho; have n0_ := Aside0.mk (blk_grown (g := gb479) (o := .cells #[.slice none 0 0, .bool x480001_1, .int .i64 x480002_1] 44 (0, 0)) (ka BK479).out hg (Kd.R_ne HO_481000.out BK479.out (by decide))); have n1_ := Aside0.mk (blk_grown (g := gb480) (o := .cells #[u481000, .bool false, .int .i64 0] 44 (0, 0)) (ka BK480).out hg (Kd.R_ne HO_481000.out BK480.out (by decide))); have n2_ := Aside0.mk (hb); have n3_ := Aside0.mk (ho); clear BK479; clear BK480; clear HB; clear HO_481000; have BK479 := n0_; have BK480 := n1_; have HB := n2_; have HO496 := n3_; clear n0_ n1_ n2_ n3_; clear ho hb hg hat; obtain ⟨Ao25, co25, eo25⟩ := Kd.R_slice HO496.out; subst eo25; have hcz26_0 := bc BK480 0; have hcz26_1 := bc BK480 1; have hcz26_2 := bc BK480 2; have hfz26_0 := bf BK480 0; have hfz26_1 := bf BK480 1; have hfz26_2 := bf BK480 2; have p497 : 0 ≤ (x7_1 : Int) := pa; have q497 : x7_1 < (l0.length : Int) := pa; obtain ⟨ad497, e497, hx497_0, hx497_1⟩ := at_T53 HR0.out x7_1 p497 q497; obtain rfl : ad482 = ad497 := (by injection e497); have hn497_0 : ad482.block ≠ gb480 := Nat.ne_of_lt (Nat.lt_of_lt_of_le (by have := World.block_lt_of_cell? _ _ hx497_0; first | rwa [add_block] at this | exact this) GW480.out); replace hx497_0 := hx HB hx497_0; replace hx497_1 := hx HB hx497_1; replace hx497_0 := (cell_far (p := ⟨gb480, 0, none⟩) (by first | (rw [add_block]; exact hn497_0) | (show (Addr.add _ _).block ≠ _; rw [add_block]; exact hn497_0) | exact hn497_0) (.slice Ao25 y494.length co25)).trans hx497_0; replace hx497_1 := (cell_far (p := ⟨gb480, 0, none⟩) (by first | (rw [add_block]; exact hn497_0) | (show (Addr.add _ _).block ≠ _; rw [add_block]; exact hn497_0) | exact hn497_0) (.slice Ao25 y494.length co25)).trans hx497_1; clear hn497_0; replace p497 := eq_true p497; replace q497 := eq_true q497))
         go_roundg k1
         case measure => have := HK1.out; omega
         case rel => exact ⟨((rd_T53 l0 x7_1).f1), (wrap64 (x7_1 + 1)), (x480001_1), (x480002_1), (y494), (.slice Ao25 y494.length co25), pr, pr, H', ⟨by have := HK1.out; omega⟩, ⟨by (with_reducible repeat (first | apply Kd.R_alloc | apply Kd.R_drewN | apply Kd.R_drew)); exact Kd.R_mono (Kd.R_far (p := ⟨gb480, 0, none⟩) (Kd.R_types HO496.out BK480.out (by decide)) (fun _ hk => hk.2) (.slice Ao25 y494.length co25)) (fun _ hk => trivial)⟩, kg BK479, ⟨by (with_reducible repeat (first | refine blk_drewN ?_ _ | refine blk_drew ?_ | refine blk_alloc ?_ _)); refine blk_put (cs := #[u481000, .bool false, .int .i64 0]) ?_ 0 _ rfl; (with_reducible repeat (first | refine blk_drewN ?_ _ | refine blk_drew ?_ | refine blk_alloc ?_ _)); exact BK480.out⟩, ba HB⟩
        ·rw [if_neg c21] at H
         exact absurd H (by simp)
       ·rw [if_neg c20] at H
        have c20b0 : (t492 == 0) = false := beq_eq_false_iff_ne.mpr c20
        have c20b1 : (t492 != 0) = true := bne_iff_ne.mpr c20
        simp only [Option.some.injEq, Prod.mk.injEq] at H
        obtain ⟨rfl, rfl, rfl, rfl⟩ := H
        have p482 : 0 ≤ (x7_1 : Int) := pa
        have q482 : x7_1 < (l0.length : Int) := pa
        obtain ⟨ad482, e482, hx482_0, hx482_1⟩ := at_T53 HR0.out x7_1 p482 q482
        cases e482
        replace hx482_0 := hx HB hx482_0
        replace hx482_1 := hx HB hx482_1
        replace p482 := eq_true p482
        replace q482 := eq_true q482
        have p483 : 0 ≤ (x7_1 : Int) := pa
        have q483 : x7_1 < (l0.length : Int) := pa
        obtain ⟨ad483, e483, hx483_0, hx483_1⟩ := at_T53 HR0.out x7_1 p483 q483
        obtain rfl : ad482 = ad483 := (by injection e483)
        replace hx483_0 := hx HB hx483_0
        replace hx483_1 := hx HB hx483_1
        replace p483 := eq_true p483
        replace q483 := eq_true q483
        go_wp2_with (first | (refine gN (some 40) Try.func100 #[.int .i64 (wrap64 (((rd_T53 l0 x7_1).f0) - x6_1)), .int .i64 86400] (epactref01_Div.calls (wrap64 (((rd_T53 l0 x7_1).f0) - x6_1)) 86400 t491 t492 t493 _ A19.out) ?_; intro nd; (try (rw [drewN_self wr]; generalize hq_ : World.drewN wr _ = wr; have n0_ : Aside0 (Kd.R k49 49 wr w.heap.size (fun _ => True) u481000 x481000_1) := ⟨by rw [← hq_]; exact (by (with_reducible repeat (first | apply Kd.R_alloc | apply Kd.R_drewN | apply Kd.R_drew)); exact HO_481000.out)⟩; have n1_ : Aside0 (wr.heap[gb479]? = some (.cells #[.slice none 0 0, .bool x480001_1, .int .i64 x480002_1] 44 (0, 0))) := ⟨by rw [← hq_]; exact (ka BK479).out⟩; have n2_ : Aside0 (wr.heap[gb480]? = some (.cells #[u481000, .bool false, .int .i64 0] 44 (0, 0))) := ⟨by rw [← hq_]; exact (ka BK480).out⟩; have n3_ : Aside0 (Below w.heap.size w wr) := ⟨by rw [← hq_]; exact (by repeat (first | (with_reducible first | exact HB.out | apply below_alloc | apply pw_below_drewN | apply below_drew1 | refine below_set ?_ GE479.out | refine below_set ?_ GE480.out) | exact HB.out))⟩; clear HO_481000 BK479 BK480 HB hq_; have HO_481000 := n0_; have BK479 := n1_; have BK480 := n2_; have HB := n3_; clear n0_ n1_ n2_ n3_)); have hnb27 := NB479_480.out; have hnc27 := NB480_479.out; have hcz28_0 := bc BK479 0; have hcz28_1 := bc BK479 1; have hcz28_2 := bc BK479 2; have hfz28_0 := bf BK479 0; have hfz28_1 := bf BK479 1; have hfz28_2 := bf BK479 2))
        refine bodyPost_ret (results_ct rfl _ _ gb479 44 #[.slice none 0 0, .bool false, .int .i64 0] (0, 0) _ rfl (by (with_reducible repeat (first | refine blk_drewN ?_ _ | refine blk_drew ?_ | refine blk_alloc ?_ _)); refine blk_put (cs := #[.slice none 0 0, .bool false, .int .i64 x480002_1]) ?_ 2 _ rfl; (with_reducible repeat (first | refine blk_drewN ?_ _ | refine blk_drew ?_ | refine blk_alloc ?_ _)); refine blk_put (cs := #[.slice none 0 0, .bool x480001_1, .int .i64 x480002_1]) ?_ 1 _ rfl; (with_reducible repeat (first | refine blk_drewN ?_ _ | refine blk_drew ?_ | refine blk_alloc ?_ _)); refine blk_put (cs := #[.slice none 0 0, .bool x480001_1, .int .i64 x480002_1]) ?_ 0 _ rfl; (with_reducible repeat (first | refine blk_drewN ?_ _ | refine blk_drew ?_ | refine blk_alloc ?_ _)); exact BK479.out) Try.underlying44 rfl (by kernel_rfl)) rfl ?_
        exact ⟨_, by first | rfl | (simp [errW_none, errW_some] <;> rfl) | (simp [*, errW_none, errW_some] <;> rfl), by first | exact Kd.R_nil _ _ _ _ _ | exact Kd.N_nil _ _ _ _ _ | exact Kd.V_nil _ _ _ _ _ | exact Kd.Q_nil _ _ _ _ _ | exact Kd.S_nil _ _ _ _ _, by repeat (first | (with_reducible first | exact HB.out | apply below_alloc | apply pw_below_drewN | apply below_drew1 | refine below_set ?_ GE479.out | refine below_set ?_ GE480.out) | exact HB.out)⟩
     ·rw [if_neg c7] at H
      exact absurd H (by simp)
    ·rw [if_neg c6] at H
     exact absurd H (by simp)
   ·rw [if_neg c5] at H
    have c5b0 : decide (x7_1 < t481) = false := decide_eq_false c5
    clear c5
    by_cases c29 : t481 < (l0.length : Int)
    ·rw [if_pos c29] at H
     have c29b0 : decide (t481 < (l0.length : Int)) = true := decide_eq_true c29
     clear c29
     by_cases c30 : 0 ≤ t481
     ·rw [if_pos c30] at H
      have c30b0 : decide (0 ≤ t481) = true := decide_eq_true c30
      clear c30
      obtain ⟨t499, A31, H⟩ := bnd H
      try dsimp only at H
      by_cases c32 : t499 = true
      ·subst c32
       rw [if_pos rfl] at H
       simp only [Option.some.injEq, Prod.mk.injEq] at H
       obtain ⟨rfl, rfl, rfl, rfl⟩ := H
       have hnb33 := NB480_479.out
       have hnc33 := NB479_480.out
       have hcz34_0 := bc BK480 0
       have hcz34_1 := bc BK480 1
       have hcz34_2 := bc BK480 2
       have hfz34_0 := bf BK480 0
       have hfz34_1 := bf BK480 1
       have hfz34_2 := bf BK480 2
       have p498 : 0 ≤ (t481 : Int) := pa
       have q498 : t481 < (l0.length : Int) := pa
       obtain ⟨ad498, e498, hx498_0, hx498_1⟩ := at_T53 HR0.out t481 p498 q498
       cases e498
       have hn498_0 : ad498.block ≠ gb480 := Nat.ne_of_lt (Nat.lt_of_lt_of_le (by have := World.block_lt_of_cell? _ _ hx498_0; first | rwa [add_block] at this | exact this) GW480.out)
       replace hx498_0 := hx HB hx498_0
       replace hx498_1 := hx HB hx498_1
       replace hx498_0 := (cell_far (p := ⟨gb480, 1, none⟩) (by first | (rw [add_block]; exact hn498_0) | (show (Addr.add _ _).block ≠ _; rw [add_block]; exact hn498_0) | exact hn498_0) (.bool true)).trans hx498_0
       replace hx498_1 := (cell_far (p := ⟨gb480, 1, none⟩) (by first | (rw [add_block]; exact hn498_0) | (show (Addr.add _ _).block ≠ _; rw [add_block]; exact hn498_0) | exact hn498_0) (.bool true)).trans hx498_1
       clear hn498_0
       replace p498 := eq_true p498
       replace q498 := eq_true q498
       obtain ⟨Ao35, co35, eo35⟩ := Kd.R_slice HO_481000.out
       subst eo35
       go_wp2_with (first | (refine gM (some 75) Try.func101 #[.agg #[.slice Ao35 x481000_1.length co35, .bool true, .int .i64 (wrap64 (((rd_T53 l0 t481).f0) - x6_1))]] (epactref09_Right.calls k1 _ _ x481000_1 true (wrap64 (((rd_T53 l0 t481).f0) - x6_1)) true _ ?side1 ?side2 A31.out) ?_; (case side1 => refine (Kd.R_reads' (e := 49) (base := w.heap.size) (ok := fun k_ => True) (n := x481000_1.length) (c := co35) ?_).2.2; exact (by (with_reducible repeat (first | apply Kd.R_alloc | apply Kd.R_drewN | apply Kd.R_drew)); exact (Kd.R_mono (Kd.R_far (p := ⟨gb480, 2, none⟩) (Kd.R_far (p := ⟨gb480, 1, none⟩) (Kd.R_types HO_481000.out BK480.out (by decide)) (fun _ hk => hk.2) (.bool true)) (fun _ hk => hk.2) (.int .i64 (wrap64 (((rd_T53 l0 t481).f0) - x6_1)))) (fun _ h_ => h_.1)))); (case side2 => exact (Kd.R_reads' HO_481000.out).2.1); intro w36 hb; have n0_ := Aside0.mk (Kd.R_below (by (with_reducible repeat (first | apply Kd.R_alloc | apply Kd.R_drewN | apply Kd.R_drew)); exact (Kd.R_mono (Kd.R_far (p := ⟨gb480, 2, none⟩) (Kd.R_far (p := ⟨gb480, 1, none⟩) (Kd.R_types HO_481000.out BK480.out (by decide)) (fun _ hk => hk.2) (.bool true)) (fun _ hk => hk.2) (.int .i64 (wrap64 (((rd_T53 l0 t481).f0) - x6_1)))) (fun _ h_ => h_.1))) hb); have n1_ := kf BK479 hb; have n2_ := Aside0.mk (blk_below (g := gb480) (o := .cells #[.slice Ao35 x481000_1.length co35, .bool true, .int .i64 (wrap64 (((rd_T53 l0 t481).f0) - x6_1))] 44 (0, 0)) (by (with_reducible repeat (first | refine blk_drewN ?_ _ | refine blk_drew ?_ | refine blk_alloc ?_ _)); refine blk_put (cs := #[.slice Ao35 x481000_1.length co35, .bool true, .int .i64 0]) ?_ 2 _ rfl; (with_reducible repeat (first | refine blk_drewN ?_ _ | refine blk_drew ?_ | refine blk_alloc ?_ _)); refine blk_put (cs := #[.slice Ao35 x481000_1.length co35, .bool false, .int .i64 0]) ?_ 1 _ rfl; (with_reducible repeat (first | refine blk_drewN ?_ _ | refine blk_drew ?_ | refine blk_alloc ?_ _)); exact BK480.out) hb); replace HB := bs HB hb; clear HO_481000; clear BK479; clear BK480; have HO_481000 := n0_; have BK479 := n1_; have BK480 := n2_; clear n0_ n1_ n2_; (try clear hb); (try clear hb2); (try clear hk); (try clear hi); have hcz37_0 := bc BK480 0; have hcz37_1 := bc BK480 1; have hcz37_2 := bc BK480 2; have hfz37_0 := bf BK480 0; have hfz37_1 := bf BK480 1; have hfz37_2 := bf BK480 2; have hcz38_0 := bc BK479 0; have hcz38_1 := bc BK479 1; have hcz38_2 := bc BK479 2; have hfz38_0 := bf BK479 0; have hfz38_1 := bf BK479 1; have hfz38_2 := bf BK479 2))
       refine bodyPost_ret (results_ct rfl _ _ gb479 44 #[.slice Ao35 x481000_1.length co35, .bool true, .int .i64 (wrap64 (((rd_T53 l0 t481).f0) - x6_1))] (0, 0) _ rfl (by (with_reducible repeat (first | refine blk_drewN ?_ _ | refine blk_drew ?_ | refine blk_alloc ?_ _)); refine blk_put (cs := #[.slice Ao35 x481000_1.length co35, .bool true, .int .i64 x480002_1]) ?_ 2 _ rfl; (with_reducible repeat (first | refine blk_drewN ?_ _ | refine blk_drew ?_ | refine blk_alloc ?_ _)); refine blk_put (cs := #[.slice Ao35 x481000_1.length co35, .bool x480001_1, .int .i64 x480002_1]) ?_ 1 _ rfl; (with_reducible repeat (first | refine blk_drewN ?_ _ | refine blk_drew ?_ | refine blk_alloc ?_ _)); refine blk_put (cs := #[.slice none 0 0, .bool x480001_1, .int .i64 x480002_1]) ?_ 0 _ rfl; (with_reducible repeat (first | refine blk_drewN ?_ _ | refine blk_drew ?_ | refine blk_alloc ?_ _)); exact BK479.out) Try.underlying44 rfl (by kernel_rfl)) rfl ?_
       exact ⟨_, by first | rfl | (simp [errW_none, errW_some] <;> rfl) | (simp [*, errW_none, errW_some] <;> rfl), by (with_reducible repeat (first | apply Kd.R_alloc | apply Kd.R_drewN | apply Kd.R_drew)); exact Kd.R_mono (Kd.R_far (p := ⟨gb479, 2, none⟩) (Kd.R_far (p := ⟨gb479, 1, none⟩) (Kd.R_far (p := ⟨gb479, 0, none⟩) (Kd.R_types HO_481000.out BK479.out (by decide)) (fun _ hk => hk.2) (.slice Ao35 x481000_1.length co35)) (fun _ hk => hk.2) (.bool true)) (fun _ hk => hk.2) (.int .i64 (wrap64 (((rd_T53 l0 t481).f0) - x6_1)))) (fun _ hk => trivial), by repeat (first | (with_reducible first | exact HB.out | apply below_alloc | apply pw_below_drewN | apply below_drew1 | refine below_set ?_ GE479.out | refine below_set ?_ GE480.out) | exact HB.out)⟩
      ·replace c32 := Bool.eq_false_iff.mpr c32
       subst c32
       rw [if_neg (show ¬ (false = true) by decide)] at H
       simp only [Option.some.injEq, Prod.mk.injEq] at H
       obtain ⟨rfl, rfl, rfl, rfl⟩ := H
       have hnb39 := NB480_479.out
       have hnc39 := NB479_480.out
       have hcz40_0 := bc BK480 0
       have hcz40_1 := bc BK480 1
       have hcz40_2 := bc BK480 2
       have hfz40_0 := bf BK480 0
       have hfz40_1 := bf BK480 1
       have hfz40_2 := bf BK480 2
       have p498 : 0 ≤ (t481 : Int) := pa
       have q498 : t481 < (l0.length : Int) := pa
       obtain ⟨ad498, e498, hx498_0, hx498_1⟩ := at_T53 HR0.out t481 p498 q498
       cases e498
       have hn498_0 : ad498.block ≠ gb480 := Nat.ne_of_lt (Nat.lt_of_lt_of_le (by have := World.block_lt_of_cell? _ _ hx498_0; first | rwa [add_block] at this | exact this) GW480.out)
       replace hx498_0 := hx HB hx498_0
       replace hx498_1 := hx HB hx498_1
       replace hx498_0 := (cell_far (p := ⟨gb480, 1, none⟩) (by first | (rw [add_block]; exact hn498_0) | (show (Addr.add _ _).block ≠ _; rw [add_block]; exact hn498_0) | exact hn498_0) (.bool true)).trans hx498_0
       replace hx498_1 := (cell_far (p := ⟨gb480, 1, none⟩) (by first | (rw [add_block]; exact hn498_0) | (show (Addr.add _ _).block ≠ _; rw [add_block]; exact hn498_0) | exact hn498_0) (.bool true)).trans hx498_1
       clear hn498_0
       replace p498 := eq_true p498
       replace q498 := eq_true q498
       obtain ⟨Ao41, co41, eo41⟩ := Kd.R_slice HO_481000.out
       subst eo41
       go_wp2_with (first | (refine gM (some 75) Try.func101 #[.agg #[.slice Ao41 x481000_1.length co41, .bool true, .int .i64 (wrap64 (((rd_T53 l0 t481).f0) - x6_1))]] (epactref09_Right.calls k1 _ _ x481000_1 true (wrap64 (((rd_T53 l0 t481).f0) - x6_1)) false _ ?side1 ?side2 A31.out) ?_; (case side1 => refine (Kd.R_reads' (e := 49) (base := w.heap.size) (ok := fun k_ => True) (n := x481000_1.length) (c := co41) ?_).2.2; exact (by (with_reducible repeat (first | apply Kd.R_alloc | apply Kd.R_drewN | apply Kd.R_drew)); exact (Kd.R_mono (Kd.R_far (p := ⟨gb480, 2, none⟩) (Kd.R_far (p := ⟨gb480, 1, none⟩) (Kd.R_types HO_481000.out BK480.out (by decide)) (fun _ hk => hk.2) (.bool true)) (fun _ hk => hk.2) (.int .i64 (wrap64 (((rd_T53 l0 t481).f0) - x6_1)))) (fun _ h_ => h_.1)))); (case side2 => exact (Kd.R_reads' HO_481000.out).2.1); intro w42 hb; have n0_ := Aside0.mk (Kd.R_below (by (with_reducible repeat (first | apply Kd.R_alloc | apply Kd.R_drewN | apply Kd.R_drew)); exact (Kd.R_mono (Kd.R_far (p := ⟨gb480, 2, none⟩) (Kd.R_far (p := ⟨gb480, 1, none⟩) (Kd.R_types HO_481000.out BK480.out (by decide)) (fun _ hk => hk.2) (.bool true)) (fun _ hk => hk.2) (.int .i64 (wrap64 (((rd_T53 l0 t481).f0) - x6_1)))) (fun _ h_ => h_.1))) hb); have n1_ := kf BK479 hb; have n2_ := Aside0.mk (blk_below (g := gb480) (o := .cells #[.slice Ao41 x481000_1.length co41, .bool true, .int .i64 (wrap64 (((rd_T53 l0 t481).f0) - x6_1))] 44 (0, 0)) (by (with_reducible repeat (first | refine blk_drewN ?_ _ | refine blk_drew ?_ | refine blk_alloc ?_ _)); refine blk_put (cs := #[.slice Ao41 x481000_1.length co41, .bool true, .int .i64 0]) ?_ 2 _ rfl; (with_reducible repeat (first | refine blk_drewN ?_ _ | refine blk_drew ?_ | refine blk_alloc ?_ _)); refine blk_put (cs := #[.slice Ao41 x481000_1.length co41, .bool false, .int .i64 0]) ?_ 1 _ rfl; (with_reducible repeat (first | refine blk_drewN ?_ _ | refine blk_drew ?_ | refine blk_alloc ?_ _)); exact BK480.out) hb); replace HB := bs HB hb; clear HO_481000; clear BK479; clear BK480; have HO_481000 := n0_; have BK479 := n1_; have BK480 := n2_; clear n0_ n1_ n2_; (try clear hb); (try clear hb2); (try clear hk); (try clear hi); have hcz43_0 := bc BK479 0; have hcz43_1 := bc BK479 1; have hcz43_2 := bc BK479 2; have hfz43_0 := bf BK479 0; have hfz43_1 := bf BK479 1; have hfz43_2 := bf BK479 2))
       refine bodyPost_ret (results_ct rfl _ _ gb479 44 #[.slice none 0 0, .bool false, .int .i64 0] (0, 0) _ rfl (by (with_reducible repeat (first | refine blk_drewN ?_ _ | refine blk_drew ?_ | refine blk_alloc ?_ _)); refine blk_put (cs := #[.slice none 0 0, .bool false, .int .i64 x480002_1]) ?_ 2 _ rfl; (with_reducible repeat (first | refine blk_drewN ?_ _ | refine blk_drew ?_ | refine blk_alloc ?_ _)); refine blk_put (cs := #[.slice none 0 0, .bool x480001_1, .int .i64 x480002_1]) ?_ 1 _ rfl; (with_reducible repeat (first | refine blk_drewN ?_ _ | refine blk_drew ?_ | refine blk_alloc ?_ _)); refine blk_put (cs := #[.slice none 0 0, .bool x480001_1, .int .i64 x480002_1]) ?_ 0 _ rfl; (with_reducible repeat (first | refine blk_drewN ?_ _ | refine blk_drew ?_ | refine blk_alloc ?_ _)); exact BK479.out) Try.underlying44 rfl (by kernel_rfl)) rfl ?_
       exact ⟨_, by first | rfl | (simp [errW_none, errW_some] <;> rfl) | (simp [*, errW_none, errW_some] <;> rfl), by first | exact Kd.R_nil _ _ _ _ _ | exact Kd.N_nil _ _ _ _ _ | exact Kd.V_nil _ _ _ _ _ | exact Kd.Q_nil _ _ _ _ _ | exact Kd.S_nil _ _ _ _ _, by repeat (first | (with_reducible first | exact HB.out | apply below_alloc | apply pw_below_drewN | apply below_drew1 | refine below_set ?_ GE479.out | refine below_set ?_ GE480.out) | exact HB.out)⟩
     ·rw [if_neg c30] at H
      exact absurd H (by simp)
    ·rw [if_neg c29] at H
     have c29b0 : decide (t481 < (l0.length : Int)) = false := decide_eq_false c29
     clear c29
     obtain ⟨t500, A44, H⟩ := bnd H
     try dsimp only at H
     by_cases c45 : t500 = true
     ·subst c45
      rw [if_pos rfl] at H
      simp only [Option.some.injEq, Prod.mk.injEq] at H
      obtain ⟨rfl, rfl, rfl, rfl⟩ := H
      have hnb46 := NB480_479.out
      have hnc46 := NB479_480.out
      have hcz47_0 := bc BK480 0
      have hcz47_1 := bc BK480 1
      have hcz47_2 := bc BK480 2
      have hfz47_0 := bf BK480 0
      have hfz47_1 := bf BK480 1
      have hfz47_2 := bf BK480 2
      obtain ⟨Ao48, co48, eo48⟩ := Kd.R_slice HO_481000.out
      subst eo48
      go_wp2_with (first | (refine gM (some 75) Try.func101 #[.agg #[.slice Ao48 x481000_1.length co48, .bool false, .int .i64 0]] (epactref09_Right.calls k1 _ _ x481000_1 false 0 true _ ?side1 ?side2 A44.out) ?_; (case side1 => repeat (first | exact (Kd.R_reads' HO_481000.out).2.2 | (with_reducible refine Kd.C_alloc ?_ _) | (with_reducible refine Kd.C_drewN ?_ _) | (with_reducible refine Kd.C_drew ?_))); (case side2 => exact (Kd.R_reads' HO_481000.out).2.1); intro w49 hb; replace HO_481000 := rb HO_481000 hb; replace BK479 := kb BK479 hb; replace BK480 := kb BK480 hb; replace HB := bs HB hb; (try clear hb); have hcz50_0 := bc BK480 0; have hcz50_1 := bc BK480 1; have hcz50_2 := bc BK480 2; have hfz50_0 := bf BK480 0; have hfz50_1 := bf BK480 1; have hfz50_2 := bf BK480 2; have hcz51_0 := bc BK479 0; have hcz51_1 := bc BK479 1; have hcz51_2 := bc BK479 2; have hfz51_0 := bf BK479 0; have hfz51_1 := bf BK479 1; have hfz51_2 := bf BK479 2))
      refine bodyPost_ret (results_ct rfl _ _ gb479 44 #[.slice Ao48 x481000_1.length co48, .bool false, .int .i64 0] (0, 0) _ rfl (by (with_reducible repeat (first | refine blk_drewN ?_ _ | refine blk_drew ?_ | refine blk_alloc ?_ _)); refine blk_put (cs := #[.slice Ao48 x481000_1.length co48, .bool false, .int .i64 x480002_1]) ?_ 2 _ rfl; (with_reducible repeat (first | refine blk_drewN ?_ _ | refine blk_drew ?_ | refine blk_alloc ?_ _)); refine blk_put (cs := #[.slice Ao48 x481000_1.length co48, .bool x480001_1, .int .i64 x480002_1]) ?_ 1 _ rfl; (with_reducible repeat (first | refine blk_drewN ?_ _ | refine blk_drew ?_ | refine blk_alloc ?_ _)); refine blk_put (cs := #[.slice none 0 0, .bool x480001_1, .int .i64 x480002_1]) ?_ 0 _ rfl; (with_reducible repeat (first | refine blk_drewN ?_ _ | refine blk_drew ?_ | refine blk_alloc ?_ _)); exact BK479.out) Try.underlying44 rfl (by kernel_rfl)) rfl ?_
      exact ⟨_, by first | rfl | (simp [errW_none, errW_some] <;> rfl) | (simp [*, errW_none, errW_some] <;> rfl), by (with_reducible repeat (first | apply Kd.R_alloc | apply Kd.R_drewN | apply Kd.R_drew)); exact Kd.R_mono (Kd.R_far (p := ⟨gb479, 2, none⟩) (Kd.R_far (p := ⟨gb479, 1, none⟩) (Kd.R_far (p := ⟨gb479, 0, none⟩) (Kd.R_types HO_481000.out BK479.out (by decide)) (fun _ hk => hk.2) (.slice Ao48 x481000_1.length co48)) (fun _ hk => hk.2) (.bool false)) (fun _ hk => hk.2) (.int .i64 0)) (fun _ hk => trivial), by repeat (first | (with_reducible first | exact HB.out | apply below_alloc | apply pw_below_drewN | apply below_drew1 | refine below_set ?_ GE479.out | refine below_set ?_ GE480.out) | exact HB.out)⟩
     ·replace c45 := Bool.eq_false_iff.mpr c45
      subst c45
      rw [if_neg (show ¬ (false = true) by decide)] at H
      simp only [Option.some.injEq, Prod.mk.injEq] at H
      obtain ⟨rfl, rfl, rfl, rfl⟩ := H
      have hnb52 := NB480_479.out
      have hnc52 := NB479_480.out
      have hcz53_0 := bc BK480 0
      have hcz53_1 := bc BK480 1
      have hcz53_2 := bc BK480 2
      have hfz53_0 := bf BK480 0
      have hfz53_1 := bf BK480 1
      have hfz53_2 := bf BK480 2
      obtain ⟨Ao54, co54, eo54⟩ := Kd.R_slice HO_481000.out
      subst eo54
      go_wp2_with (first | (refine gM (some 75) Try.func101 #[.agg #[.slice Ao54 x481000_1.length co54, .bool false, .int .i64 0]] (epactref09_Right.calls k1 _ _ x481000_1 false 0 false _ ?side1 ?side2 A44.out) ?_; (case side1 => repeat (first | exact (Kd.R_reads' HO_481000.out).2.2 | (with_reducible refine Kd.C_alloc ?_ _) | (with_reducible refine Kd.C_drewN ?_ _) | (with_reducible refine Kd.C_drew ?_))); (case side2 => exact (Kd.R_reads' HO_481000.out).2.1); intro w55 hb; replace HO_481000 := rb HO_481000 hb; replace BK479 := kb BK479 hb; replace BK480 := kb BK480 hb; replace HB := bs HB hb; (try clear hb); have hcz56_0 := bc BK479 0; have hcz56_1 := bc BK479 1; have hcz56_2 := bc BK479 2; have hfz56_0 := bf BK479 0; have hfz56_1 := bf BK479 1; have hfz56_2 := bf BK479 2))
      refine bodyPost_ret (results_ct rfl _ _ gb479 44 #[.slice none 0 0, .bool false, .int .i64 0] (0, 0) _ rfl (by (with_reducible repeat (first | refine blk_drewN ?_ _ | refine blk_drew ?_ | refine blk_alloc ?_ _)); refine blk_put (cs := #[.slice none 0 0, .bool false, .int .i64 x480002_1]) ?_ 2 _ rfl; (with_reducible repeat (first | refine blk_drewN ?_ _ | refine blk_drew ?_ | refine blk_alloc ?_ _)); refine blk_put (cs := #[.slice none 0 0, .bool x480001_1, .int .i64 x480002_1]) ?_ 1 _ rfl; (with_reducible repeat (first | refine blk_drewN ?_ _ | refine blk_drew ?_ | refine blk_alloc ?_ _)); refine blk_put (cs := #[.slice none 0 0, .bool x480001_1, .int .i64 x480002_1]) ?_ 0 _ rfl; (with_reducible repeat (first | refine blk_drewN ?_ _ | refine blk_drew ?_ | refine blk_alloc ?_ _)); exact BK479.out) Try.underlying44 rfl (by kernel_rfl)) rfl ?_
      exact ⟨_, by first | rfl | (simp [errW_none, errW_some] <;> rfl) | (simp [*, errW_none, errW_some] <;> rfl), by first | exact Kd.R_nil _ _ _ _ _ | exact Kd.N_nil _ _ _ _ _ | exact Kd.V_nil _ _ _ _ _ | exact Kd.Q_nil _ _ _ _ _ | exact Kd.S_nil _ _ _ _ _, by repeat (first | (with_reducible first | exact HB.out | apply below_alloc | apply pw_below_drewN | apply below_drew1 | refine below_set ?_ GE479.out | refine below_set ?_ GE480.out) | exact HB.out)⟩

/-! ### epactref01_Sub: function 110 -/
def epactref01_Sub.f (a0 : Int) (a1 : Int) : Option (Int × Bool) := if a1 < 0 then (if a0 > (wrap64 (9223372036854775807 + a1)) then (some (0, false)) else (if a1 > 0 then (if a0 < (wrap64 ((-9223372036854775808) + a1)) then (some (0, false)) else (some (wrap64 (a0 - a1), true))) else (some (wrap64 (a0 - a1), true)))) else (if a1 > 0 then (if a0 < (wrap64 ((-9223372036854775808) + a1)) then (some (0, false)) else (some (wrap64 (a0 - a1), true))) else (some (wrap64 (a0 - a1), true)))
set_option maxHeartbeats 8000000 in
set_option maxRecDepth 100000 in
theorem epactref01_Sub.calls (a0 : Int) (a1 : Int) (r1 : Int) (r2 : Bool) (w : World) (h : epactref01_Sub.f a0 a1 = some (r1, r2)) :
  Calls Try.prog 110 #[.int .i64 a0, .int .i64 a1] w fun e w' => e = .returned (.tuple #[.int .i64 r1, .bool r2]) ∧ Drawn0 w w' := by
 have H : (if a1 < 0 then (if a0 > (wrap64 (9223372036854775807 + a1)) then (some (0, false)) else (if a1 > 0 then (if a0 < (wrap64 ((-9223372036854775808) + a1)) then (some (0, false)) else (some (wrap64 (a0 - a1), true))) else (some (wrap64 (a0 - a1), true)))) else (if a1 > 0 then (if a0 < (wrap64 ((-9223372036854775808) + a1)) then (some (0, false)) else (some (wrap64 (a0 - a1), true))) else (some (wrap64 (a0 - a1), true)))) = some (r1, r2) := h
 clear h
 by_cases c3 : a1 < 0
 ·rw [if_pos c3] at H
  have c3b0 : decide (a1 < 0) = true := decide_eq_true c3
  clear c3
  by_cases c4 : a0 > (wrap64 (9223372036854775807 + a1))
  ·rw [if_pos c4] at H
   have c4b0 : decide ((wrap64 (9223372036854775807 + a1)) < a0) = true := decide_eq_true c4
   clear c4
   simp only [Option.some.injEq, Prod.mk.injEq] at H
   obtain ⟨rfl, rfl⟩ := H
   go_enter Try.func110, Try.ntmps110
   go_wp2
   go_ret2
   exact fd
  ·rw [if_neg c4] at H
   have c4b0 : decide ((wrap64 (9223372036854775807 + a1)) < a0) = false := decide_eq_false c4
   clear c4
   by_cases c5 : a1 > 0
   ·rw [if_pos c5] at H
    have c5b0 : decide (0 < a1) = true := decide_eq_true c5
    clear c5
    by_cases c6 : a0 < (wrap64 ((-9223372036854775808) + a1))
    ·rw [if_pos c6] at H
     have c6b0 : decide (a0 < (wrap64 ((-9223372036854775808) + a1))) = true := decide_eq_true c6
     clear c6
     simp only [Option.some.injEq, Prod.mk.injEq] at H
     obtain ⟨rfl, rfl⟩ := H
     go_enter Try.func110, Try.ntmps110
     go_wp2
     go_ret2
     exact fd
    ·rw [if_neg c6] at H
     have c6b0 : decide (a0 < (wrap64 ((-9223372036854775808) + a1))) = false := decide_eq_false c6
     clear c6
     simp only [Option.some.injEq, Prod.mk.injEq] at H
     obtain ⟨rfl, rfl⟩ := H
     go_enter Try.func110, Try.ntmps110
     go_wp2
     go_ret2
     exact fd
   ·rw [if_neg c5] at H
    have c5b0 : decide (0 < a1) = false := decide_eq_false c5
    clear c5
    simp only [Option.some.injEq, Prod.mk.injEq] at H
    obtain ⟨rfl, rfl⟩ := H
    go_enter Try.func110, Try.ntmps110
    go_wp2
    go_ret2
    exact fd
 ·rw [if_neg c3] at H
  have c3b0 : decide (a1 < 0) = false := decide_eq_false c3
  clear c3
  by_cases c7 : a1 > 0
  ·rw [if_pos c7] at H
   have c7b0 : decide (0 < a1) = true := decide_eq_true c7
   clear c7
   by_cases c8 : a0 < (wrap64 ((-9223372036854775808) + a1))
   ·rw [if_pos c8] at H
    have c8b0 : decide (a0 < (wrap64 ((-9223372036854775808) + a1))) = true := decide_eq_true c8
    clear c8
    simp only [Option.some.injEq, Prod.mk.injEq] at H
    obtain ⟨rfl, rfl⟩ := H
    go_enter Try.func110, Try.ntmps110
    go_wp2
    go_ret2
    exact fd
   ·rw [if_neg c8] at H
    have c8b0 : decide (a0 < (wrap64 ((-9223372036854775808) + a1))) = false := decide_eq_false c8
    clear c8
    simp only [Option.some.injEq, Prod.mk.injEq] at H
    obtain ⟨rfl, rfl⟩ := H
    go_enter Try.func110, Try.ntmps110
    go_wp2
    go_ret2
    exact fd
  ·rw [if_neg c7] at H
   have c7b0 : decide (0 < a1) = false := decide_eq_false c7
   clear c7
   simp only [Option.some.injEq, Prod.mk.injEq] at H
   obtain ⟨rfl, rfl⟩ := H
   go_enter Try.func110, Try.ntmps110
   go_wp2
   go_ret2
   exact fd

end Go.Proofs.Ythoigncoojcanaa.PAll
