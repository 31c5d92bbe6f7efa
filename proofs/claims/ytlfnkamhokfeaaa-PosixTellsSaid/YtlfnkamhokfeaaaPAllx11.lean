-- Written for this claim by wip/tools of this repo (after the kit's print; own contracts laid in).
import Derived.Test.YtlfnkamhokfeaaaPAllx0
import Derived.Test.YtlfnkamhokfeaaaPAllx1
import Derived.Test.YtlfnkamhokfeaaaPAllx4
import Derived.Test.YtlfnkamhokfeaaaPAllx5
import Derived.Test.YtlfnkamhokfeaaaPAllx6
import Derived.Test.YtlfnkamhokfeaaaPAllx9
import Derived.Test.YtlfnkamhokfeaaaPAllx10
namespace Go.Proofs.Ytlfnkamhokfeaaa.PAll
open Go.RowKit Go.Proofs.YtlfnkamhokfeaaaW.PrintWords Go.Proofs.YtlfnkamhokfeaaaW.PrintLast Go.Proofs.YtlfnkamhokfeaaaW.PrintMore
attribute [local go_sem] max2_int min2_int max_two min_two max_three min_three max_four min_four   -- for this text's walks alone
set_option linter.unusedVariables false
set_option linter.unusedSimpArgs false

/-! ### epactref22_Utc: function 27 -/
mutual
def epactref22_Utc.j0 : Nat → Int → Bool → List (S54) → Bool → Int → Option (Int × Int × Int)
  | 0, _, _, _, _, _ => none
  | k + 1, x1, x34, x368000, x368001, x368002 => if x34 = true then (some (0, 0, 10)) else (epactref22_Utc.l0 k x1 730 0 x368000 x368001 x368002)
def epactref22_Utc.l0 : Nat → Int → Int → Int → List (S54) → Bool → Int → Option (Int × Int × Int)
  | 0, _, _, _, _, _, _ => none
  | k + 1, x11, x12, x13, x368000, x368001, x368002 => if x13 < (x368000.length : Int) then (if 0 ≤ x13 then (if x11 < (wrap64 (86400 * (wrap64 (((rd_T54 x368000 x13).f0) - x12)))) then (if (wrap64 (x12 + (wrap64 (Int.tdiv x11 86400)))) > 2932896 then (some (0, 0, 9)) else (some (wrap64 (x12 + (wrap64 (Int.tdiv x11 86400))), Int.tmod x11 86400, 0))) else (if (wrap64 (x11 - (wrap64 (86400 * (wrap64 (((rd_T54 x368000 x13).f0) - x12)))))) < (wrap64 (86400 + ((rd_T54 x368000 x13).f1))) then (some ((rd_T54 x368000 x13).f0, wrap64 (x11 - (wrap64 (86400 * (wrap64 (((rd_T54 x368000 x13).f0) - x12))))), 0)) else (epactref22_Utc.l0 k (wrap64 ((wrap64 ((wrap64 (x11 - (wrap64 (86400 * (wrap64 (((rd_T54 x368000 x13).f0) - x12)))))) - 86400)) - ((rd_T54 x368000 x13).f1))) (wrap64 (((rd_T54 x368000 x13).f0) + 1)) (wrap64 (x13 + 1)) x368000 x368001 x368002))) else (none)) else (if (wrap64 (x12 + (wrap64 (Int.tdiv x11 86400)))) > 2932896 then (some (0, 0, 9)) else (some (wrap64 (x12 + (wrap64 (Int.tdiv x11 86400))), Int.tmod x11 86400, 0)))
end
def epactref22_Utc.f (k : Nat) (l0 : List (S40)) (a1 : Int) : Option (Int × Int × Int) := (epactref22_table.f k l0).bind fun bt361 => (if bt361.2.2.2 = true then (if a1 < 0 then (some (0, 0, 9)) else ((epactref22_End.f k l0).bind fun bt368 => (if bt368.2 = true then (epactref22_Utc.j0 k a1 (decide (a1 ≥ bt368.1)) bt361.1 bt361.2.1 bt361.2.2.1) else (epactref22_Utc.j0 k a1 false bt361.1 bt361.2.1 bt361.2.2.1)))) else (some (0, 0, 1)))
theorem epactref22_Utc.mono_l : ∀ k, (∀ y0 y1 y2 y3 y4, LeO (epactref22_Utc.j0 k y0 y1 y2 y3 y4) (epactref22_Utc.j0 (k + 1) y0 y1 y2 y3 y4)) ∧ (∀ y0 y1 y2 y3 y4 y5, LeO (epactref22_Utc.l0 k y0 y1 y2 y3 y4 y5) (epactref22_Utc.l0 (k + 1) y0 y1 y2 y3 y4 y5))
  | 0 => ⟨fun _ _ _ _ _ r h => by simp [epactref22_Utc.j0] at h, fun _ _ _ _ _ _ r h => by simp [epactref22_Utc.l0] at h⟩
  | k + 1 => by
    obtain ⟨ih0, ih1⟩ := epactref22_Utc.mono_l k
    refine ⟨?_, ?_⟩
    · intro y0 y1 y2 y3 y4
      unfold epactref22_Utc.j0
      repeat' first
      | (with_reducible exact ih0 _ _ _ _ _)
      | (with_reducible exact ih1 _ _ _ _ _ _)
      | (with_reducible exact epactref22_End.mono _ _)
      | (with_reducible exact epactref22_table.mono _ _)
      | (with_reducible exact LeO.refl _)
      | (with_reducible exact LeO.none _)
      | (with_reducible refine LeO.ite ?_ ?_)
      | (with_reducible refine LeO.bind ?_ (fun _ => ?_))
      | exact ih0 _ _ _ _ _
      | exact ih1 _ _ _ _ _ _
      | exact epactref22_End.mono _ _
      | exact epactref22_table.mono _ _
      | exact LeO.none _
      | refine LeO.ite ?_ ?_
      | refine LeO.bind ?_ (fun _ => ?_)
    · intro y0 y1 y2 y3 y4 y5
      unfold epactref22_Utc.l0
      repeat' first
      | (with_reducible exact ih0 _ _ _ _ _)
      | (with_reducible exact ih1 _ _ _ _ _ _)
      | (with_reducible exact epactref22_End.mono _ _)
      | (with_reducible exact epactref22_table.mono _ _)
      | (with_reducible exact LeO.refl _)
      | (with_reducible exact LeO.none _)
      | (with_reducible refine LeO.ite ?_ ?_)
      | (with_reducible refine LeO.bind ?_ (fun _ => ?_))
      | exact ih0 _ _ _ _ _
      | exact ih1 _ _ _ _ _ _
      | exact epactref22_End.mono _ _
      | exact epactref22_table.mono _ _
      | exact LeO.none _
      | refine LeO.ite ?_ ?_
      | refine LeO.bind ?_ (fun _ => ?_)
theorem epactref22_Utc.mono : ∀ a0 a1 k, LeO (epactref22_Utc.f k a0 a1) (epactref22_Utc.f (k + 1) a0 a1) := by
  intro a0 a1 k
  obtain ⟨ih0, ih1⟩ := epactref22_Utc.mono_l k
  unfold epactref22_Utc.f
  repeat' first
      | (with_reducible exact ih0 _ _ _ _ _)
      | (with_reducible exact ih1 _ _ _ _ _ _)
      | (with_reducible exact epactref22_End.mono _ _)
      | (with_reducible exact epactref22_table.mono _ _)
      | (with_reducible exact LeO.refl _)
      | (with_reducible exact LeO.none _)
      | (with_reducible refine LeO.ite ?_ ?_)
      | (with_reducible refine LeO.bind ?_ (fun _ => ?_))
      | exact ih0 _ _ _ _ _
      | exact ih1 _ _ _ _ _ _
      | exact epactref22_End.mono _ _
      | exact epactref22_table.mono _ _
      | exact LeO.none _
      | refine LeO.ite ?_ ?_
      | refine LeO.bind ?_ (fun _ => ?_)
set_option maxHeartbeats 8000000 in
set_option maxRecDepth 100000 in
theorem epactref22_Utc.calls (k : Nat) (A0 : Option Addr) (c0 : Nat) (l0 : List (S40)) (a1 : Int) (r1 : Int) (r2 : Int) (r3 : Int) (w : World) (hr0 : Kd.C k40 w A0 l0.length l0) (hc0 : l0.length ≤ c0) (h : epactref22_Utc.f k l0 a1 = some (r1, r2, r3)) :
    Calls Try.prog 27 #[.slice A0 l0.length c0, .int .i64 a1] w fun e w' => e = .returned (.tuple #[.int .i64 r1, .int .i64 r2, .int .i64 r3]) ∧ Below w.heap.size w w' := by
  have hu48 := Try.underlying48
  have HR0 := Aside0.mk hr0
  have HC0 := Aside0.mk hc0
  clear hr0 hc0
  have HB := Aside0.mk (Below.refl w.heap.size w)
  have H : ((epactref22_table.f k l0).bind fun bt361 => (if bt361.2.2.2 = true then (if a1 < 0 then (some (0, 0, 9)) else ((epactref22_End.f k l0).bind fun bt368 => (if bt368.2 = true then (epactref22_Utc.j0 k a1 (decide (a1 ≥ bt368.1)) bt361.1 bt361.2.1 bt361.2.2.1) else (epactref22_Utc.j0 k a1 false bt361.1 bt361.2.1 bt361.2.2.1)))) else (some (0, 0, 1)))) = some (r1, r2, r3) := h
  clear h
  replace H := Option.bind_eq_some_iff.mp H
  obtain ⟨⟨t361, t364, t365, t366⟩, A30, H⟩ := H
  replace H : (if t366 = true then (if a1 < 0 then (some (0, 0, 9)) else ((epactref22_End.f k l0).bind fun bt368 => (if bt368.2 = true then (epactref22_Utc.j0 k a1 (decide (a1 ≥ bt368.1)) t361 t364 t365) else (epactref22_Utc.j0 k a1 false t361 t364 t365)))) else (some (0, 0, 1))) = some (r1, r2, r3) := H
  have A3 := Aside0.mk A30
  clear A30
  by_cases c4 : t366 = true
  · subst c4
    have H1 : (if a1 < 0 then (some (0, 0, 9)) else ((epactref22_End.f k l0).bind fun bt368 => (if bt368.2 = true then (epactref22_Utc.j0 k a1 (decide (a1 ≥ bt368.1)) t361 t364 t365) else (epactref22_Utc.j0 k a1 false t361 t364 t365)))) = some (r1, r2, r3) := by rw [if_pos rfl] at H; exact H
    clear H
    have H := H1
    clear H1
    by_cases c5 : a1 < 0
    · rw [if_pos c5] at H
      have c5b0 : decide (a1 < 0) = true := decide_eq_true c5
      clear c5
      simp only [Option.some.injEq, Prod.mk.injEq] at H
      obtain ⟨rfl, rfl, rfl⟩ := H
      go_enter Try.func27, Try.ntmps27
      go_wp2_with (first | ((with_reducible refine gate_callee (f := 36) rfl ?_); refine goesL_ (some 17) rfl rfl Try.func36 (by kernel_rfl) rfl #[.slice A0 l0.length c0] rfl (by (try simp only [List.map_toArray, List.map_cons, List.map_nil]); first | done | rfl | (simp only [List.length_drop, List.length_take]; rfl)) ?_; (with_reducible refine (epactref22_table.calls k _ _ l0 t361 t364 t365 true _ ?side1 ?side2 A3.out).mono ?_); (case side1 => repeat (first | exact HR0.out | (with_reducible refine Kd.C_alloc ?_ _) | (with_reducible refine Kd.C_drewN ?_ _) | (with_reducible refine Kd.C_drew ?_))); (case side2 => exact HC0.out); rintro e w6 ⟨v362, rfl, ho0, hb⟩; refine ⟨_, rfl, ?_⟩; have n0_ := Aside0.mk (Kd.R_lower ho0 (below_size (by repeat (first | (with_reducible first | exact HB.out | apply below_alloc | apply pw_below_drewN | apply below_drew1) | exact HB.out)))); have n1_ := Aside0.mk (below_step (by repeat (first | (with_reducible first | exact HB.out | apply below_alloc | apply pw_below_drewN | apply below_drew1) | exact HB.out)) hb); clear HB; have HO363 := n0_; have HB := n1_; clear n0_ n1_; (try clear hb); (try clear hb2); (try clear hk); (try clear hi); (try clear ho0)) | ((with_reducible refine gate_dst (N := 7) rfl ?_); refine box_event ?hg (N := 7) ?hd (cs := #[.slice none 0 0, .bool false, .int .i64 0]) (t := 48) ?hr ?_; (case hd => rfl); (case hg => rfl); (case hr => first | (go_simp; done) | (go_simp; rfl)); intro gb367 hg w7 hbox hb; have n0_ := Aside0.mk (Kd.R_below (by (with_reducible repeat (first | apply Kd.R_alloc | apply Kd.R_drewN | apply Kd.R_drew)); exact HO363.out) hb); have n1_ := Aside0.mk (below_step (by repeat (first | (with_reducible first | exact HB.out | apply below_alloc | apply pw_below_drewN | apply below_drew1) | exact HB.out)) hb); have n2_ := Aside0.mk (hbox); have n3_ := Aside0.mk ((by rw [hg]; exact (below_size (by repeat (first | (with_reducible first | exact HB.out | apply below_alloc | apply pw_below_drewN | apply below_drew1) | exact HB.out))) : w.heap.size ≤ gb367)); have n4_ := Aside0.mk ((by rw [hg]; exact (below_size (by repeat (first | (with_reducible first | exact HB.out | apply below_alloc | apply pw_below_drewN | apply below_drew1) | exact HB.out))) : w.heap.size ≤ gb367)); clear HO363; clear HB; have HO363 := n0_; have HB := n1_; have BK367 := n2_; have GW367 := n3_; have GE367 := n4_; clear n0_ n1_ n2_ n3_ n4_; clear hb hbox hg; obtain ⟨Ao8, co8, eo8⟩ := Kd.R_slice HO363.out; subst eo8; have hcz9_0 : w7.cell? ⟨gb367, 0, none⟩ = some (.slice none 0 0) := (blk_cell BK367.out 0).trans rfl; have hcz9_1 : w7.cell? ⟨gb367, 1, none⟩ = some (.bool false) := (blk_cell BK367.out 1).trans rfl; have hcz9_2 : w7.cell? ⟨gb367, 2, none⟩ = some (.int .i64 0) := (blk_cell BK367.out 2).trans rfl; have hfz9_0 := blk_frozen BK367.out 0; have hfz9_1 := blk_frozen BK367.out 1; have hfz9_2 := blk_frozen BK367.out 2))
      go_ret3
      exact ⟨by first | rfl | (simp [errW_none, errW_some] <;> rfl) | (simp [*, errW_none, errW_some] <;> rfl), by repeat (first | (with_reducible first | exact HB.out | apply below_alloc | apply pw_below_drewN | apply below_drew1 | refine below_set ?_ GE367.out) | exact HB.out)⟩
    · rw [if_neg c5] at H
      have c5b0 : decide (a1 < 0) = false := decide_eq_false c5
      clear c5
      replace H := Option.bind_eq_some_iff.mp H
      obtain ⟨⟨t368, t369⟩, A100, H⟩ := H
      replace H : (if t369 = true then (epactref22_Utc.j0 k a1 (decide (a1 ≥ t368)) t361 t364 t365) else (epactref22_Utc.j0 k a1 false t361 t364 t365)) = some (r1, r2, r3) := H
      have A10 := Aside0.mk A100
      clear A100
      have HC11 := Aside0.mk H
      clear H
      go_enter Try.func27, Try.ntmps27
      go_upto_region 7 with (first | ((with_reducible refine gate_callee (f := 36) rfl ?_); refine goesL_ (some 17) rfl rfl Try.func36 (by kernel_rfl) rfl #[.slice A0 l0.length c0] rfl (by (try simp only [List.map_toArray, List.map_cons, List.map_nil]); first | done | rfl | (simp only [List.length_drop, List.length_take]; rfl)) ?_; (with_reducible refine (epactref22_table.calls k _ _ l0 t361 t364 t365 true _ ?side1 ?side2 A3.out).mono ?_); (case side1 => repeat (first | exact HR0.out | (with_reducible refine Kd.C_alloc ?_ _) | (with_reducible refine Kd.C_drewN ?_ _) | (with_reducible refine Kd.C_drew ?_))); (case side2 => exact HC0.out); rintro e w12 ⟨v362, rfl, ho0, hb⟩; refine ⟨_, rfl, ?_⟩; have n0_ := Aside0.mk (Kd.R_lower ho0 (below_size (by repeat (first | (with_reducible first | exact HB.out | apply below_alloc | apply pw_below_drewN | apply below_drew1) | exact HB.out)))); have n1_ := Aside0.mk (below_step (by repeat (first | (with_reducible first | exact HB.out | apply below_alloc | apply pw_below_drewN | apply below_drew1) | exact HB.out)) hb); clear HB; have HO363 := n0_; have HB := n1_; clear n0_ n1_; (try clear hb); (try clear hb2); (try clear hk); (try clear hi); (try clear ho0)) | ((with_reducible refine gate_dst (N := 7) rfl ?_); refine box_event ?hg (N := 7) ?hd (cs := #[.slice none 0 0, .bool false, .int .i64 0]) (t := 48) ?hr ?_; (case hd => rfl); (case hg => rfl); (case hr => first | (go_simp; done) | (go_simp; rfl)); intro gb367 hg w13 hbox hb; have n0_ := Aside0.mk (Kd.R_below (by (with_reducible repeat (first | apply Kd.R_alloc | apply Kd.R_drewN | apply Kd.R_drew)); exact HO363.out) hb); have n1_ := Aside0.mk (below_step (by repeat (first | (with_reducible first | exact HB.out | apply below_alloc | apply pw_below_drewN | apply below_drew1) | exact HB.out)) hb); have n2_ := Aside0.mk (hbox); have n3_ := Aside0.mk ((by rw [hg]; exact (below_size (by repeat (first | (with_reducible first | exact HB.out | apply below_alloc | apply pw_below_drewN | apply below_drew1) | exact HB.out))) : w.heap.size ≤ gb367)); have n4_ := Aside0.mk ((by rw [hg]; exact (below_size (by repeat (first | (with_reducible first | exact HB.out | apply below_alloc | apply pw_below_drewN | apply below_drew1) | exact HB.out))) : w.heap.size ≤ gb367)); clear HO363; clear HB; have HO363 := n0_; have HB := n1_; have BK367 := n2_; have GW367 := n3_; have GE367 := n4_; clear n0_ n1_ n2_ n3_ n4_; clear hb hbox hg; obtain ⟨Ao14, co14, eo14⟩ := Kd.R_slice HO363.out; subst eo14; have hcz15_0 : w13.cell? ⟨gb367, 0, none⟩ = some (.slice none 0 0) := (blk_cell BK367.out 0).trans rfl; have hcz15_1 : w13.cell? ⟨gb367, 1, none⟩ = some (.bool false) := (blk_cell BK367.out 1).trans rfl; have hcz15_2 : w13.cell? ⟨gb367, 2, none⟩ = some (.int .i64 0) := (blk_cell BK367.out 2).trans rfl; have hfz15_0 := blk_frozen BK367.out 0; have hfz15_1 := blk_frozen BK367.out 1; have hfz15_2 := blk_frozen BK367.out 2) | ((with_reducible refine gate_callee (f := 39) rfl ?_); refine goesL_ (some 26) rfl rfl Try.func39 (by kernel_rfl) rfl #[.slice A0 l0.length c0] rfl (by (try simp only [List.map_toArray, List.map_cons, List.map_nil]); first | done | rfl | (simp only [List.length_drop, List.length_take]; rfl)) ?_; (with_reducible refine (epactref22_End.calls k _ _ l0 t368 t369 _ ?side1 ?side2 A10.out).mono ?_); (case side1 => exact Kd.C_below HR0.out (by repeat (first | (with_reducible first | exact HB.out | apply below_alloc | apply pw_below_drewN | apply below_drew1 | refine below_set ?_ GE367.out) | exact HB.out))); (case side2 => exact HC0.out); rintro e w16 ⟨rfl, hb⟩; refine ⟨_, rfl, ?_⟩; have n0_ := Aside0.mk (Kd.R_below (by (with_reducible repeat (first | apply Kd.R_alloc | apply Kd.R_drewN | apply Kd.R_drew)); exact (Kd.R_mono (Kd.R_far (p := ⟨gb367, 2, none⟩) (Kd.R_far (p := ⟨gb367, 1, none⟩) (Kd.R_far (p := ⟨gb367, 0, none⟩) (Kd.R_types HO363.out BK367.out (by decide)) (fun _ hk => hk.2) (.slice Ao14 t361.length co14)) (fun _ hk => hk.2) (.bool t364)) (fun _ hk => hk.2) (.int .i64 t365)) (fun _ h_ => h_.1))) hb); have n1_ := Aside0.mk (blk_below (g := gb367) (o := .cells #[.slice Ao14 t361.length co14, .bool t364, .int .i64 t365] 48 (0, 0)) (by (with_reducible repeat (first | refine blk_drewN ?_ _ | refine blk_drew ?_ | refine blk_alloc ?_ _)); refine blk_put (cs := #[.slice Ao14 t361.length co14, .bool t364, .int .i64 0]) ?_ 2 _ rfl; (with_reducible repeat (first | refine blk_drewN ?_ _ | refine blk_drew ?_ | refine blk_alloc ?_ _)); refine blk_put (cs := #[.slice Ao14 t361.length co14, .bool false, .int .i64 0]) ?_ 1 _ rfl; (with_reducible repeat (first | refine blk_drewN ?_ _ | refine blk_drew ?_ | refine blk_alloc ?_ _)); refine blk_put (cs := #[.slice none 0 0, .bool false, .int .i64 0]) ?_ 0 _ rfl; (with_reducible repeat (first | refine blk_drewN ?_ _ | refine blk_drew ?_ | refine blk_alloc ?_ _)); exact BK367.out) hb); have n2_ := Aside0.mk (below_step (by repeat (first | (with_reducible first | exact HB.out | apply below_alloc | apply pw_below_drewN | apply below_drew1 | refine below_set ?_ GE367.out) | exact HB.out)) hb); clear HO363; clear BK367; clear HB; have HO363 := n0_; have BK367 := n1_; have HB := n2_; clear n0_ n1_ n2_; (try clear hb); (try clear hb2); (try clear hk); (try clear hi)))
      (try simp only [Act.put, List.setIfInBounds_toArray, List.set_cons_zero, List.set_cons_succ])
      go_cut [34] (fun v34 wc => ∃ (kq : Nat) (x34_10 : Bool), v34 = .bool x34_10 ∧ Aside0 (epactref22_Utc.j0 kq a1 x34_10 t361 t364 t365 = some (r1, r2, r3)) ∧ Aside0 (kq ≤ k) ∧ Aside0 (Kd.R k54 54 wc w.heap.size (fun _ => True) (.slice Ao14 t361.length co14) t361) ∧ Aside0 (wc.heap[gb367]? = some (.cells #[(.slice Ao14 t361.length co14), .bool t364, .int .i64 t365] 48 (0, 0))) ∧ Aside0 (Below w.heap.size w wc))
      case first =>
        have H := HC11.out
        clear HC11
        by_cases c17 : t369 = true
        · subst c17
          have H1 : (epactref22_Utc.j0 k a1 (decide (a1 ≥ t368)) t361 t364 t365) = some (r1, r2, r3) := by rw [if_pos rfl] at H; exact H
          clear H
          have H := H1
          clear H1
          have H' := Aside0.mk H
          clear H
          go_wp2
          go_meet
          case rel => exact ⟨_, (decide (a1 ≥ t368)), (by first | rfl | (simp; done) | (simp [*]; done)), H', ⟨by first | omega | exact Nat.le_refl _⟩, ⟨by (with_reducible repeat (first | apply Kd.R_alloc | apply Kd.R_drewN | apply Kd.R_drew)); exact HO363.out⟩, ⟨by (with_reducible repeat (first | refine blk_drewN ?_ _ | refine blk_drew ?_ | refine blk_alloc ?_ _)); exact BK367.out⟩, ⟨by repeat (first | (with_reducible first | exact HB.out | apply below_alloc | apply pw_below_drewN | apply below_drew1 | refine below_set ?_ GE367.out) | exact HB.out)⟩⟩
        · replace c17 := Bool.eq_false_iff.mpr c17
          subst c17
          have H1 : (epactref22_Utc.j0 k a1 false t361 t364 t365) = some (r1, r2, r3) := by rw [if_neg (show ¬ (false = true) by decide)] at H; exact H
          clear H
          have H := H1
          clear H1
          have H' := Aside0.mk H
          clear H
          go_wp2
          go_meet
          case rel => exact ⟨_, (false), (by first | rfl | (simp; done) | (simp [*]; done)), H', ⟨by first | omega | exact Nat.le_refl _⟩, ⟨by (with_reducible repeat (first | apply Kd.R_alloc | apply Kd.R_drewN | apply Kd.R_drew)); exact HO363.out⟩, ⟨by (with_reducible repeat (first | refine blk_drewN ?_ _ | refine blk_drew ?_ | refine blk_alloc ?_ _)); exact BK367.out⟩, ⟨by repeat (first | (with_reducible first | exact HB.out | apply below_alloc | apply pw_below_drewN | apply below_drew1 | refine below_set ?_ GE367.out) | exact HB.out)⟩⟩
      case rest =>
        clear HC11
        try clear c1
        try clear c2
        try clear p2
        try clear c3
        try clear c4
        try clear c5
        try clear c5b0
        try clear c17
        try clear hcz15_0
        try clear hcz15_1
        try clear hcz15_2
        try clear hcz9_0
        try clear hcz9_1
        try clear hcz9_2
        try clear hfz15_0
        try clear hfz15_1
        try clear hfz15_2
        try clear hfz9_0
        try clear hfz9_1
        try clear hfz9_2
        obtain ⟨kq, x34_10, rfl, HA, HJ10, HO_368000, BK367, HB⟩ := hcut
        cases kq with
        | zero => exact absurd HA.out (by simp [epactref22_Utc.j0])
        | succ kj10 =>
          have H := HA.out
          clear HA
          simp only [epactref22_Utc.j0] at H
          by_cases c18 : x34_10 = true
          · subst c18
            have H1 : (some (0, 0, 10)) = some (r1, r2, r3) := by rw [if_pos rfl] at H; exact H
            clear H
            have H := H1
            clear H1
            simp only [Option.some.injEq, Prod.mk.injEq] at H
            obtain ⟨rfl, rfl, rfl⟩ := H
            go_wp2
            go_ret3
            exact ⟨by first | rfl | (simp [errW_none, errW_some] <;> rfl) | (simp [*, errW_none, errW_some] <;> rfl), by repeat (first | (with_reducible first | exact HB.out | apply below_alloc | apply pw_below_drewN | apply below_drew1 | refine below_set ?_ GE367.out) | exact HB.out)⟩
          · replace c18 := Bool.eq_false_iff.mpr c18
            subst c18
            have H1 : (epactref22_Utc.l0 kj10 a1 730 0 t361 t364 t365) = some (r1, r2, r3) := by rw [if_neg (show ¬ (false = true) by decide)] at H; exact H
            clear H
            have H := H1
            clear H1
            have H' := Aside0.mk H
            clear H
            go_wp2
            go_loopg [11, 12, 13] kj10 (fun kq v11 v12 v13 w' => ∃ (x11_2 : Int) (x12_2 : Int) (x13_2 : Int), v11 = .int .i64 x11_2 ∧ v12 = .int .i64 x12_2 ∧ v13 = .int .i64 x13_2 ∧ Aside0 (epactref22_Utc.l0 kq x11_2 x12_2 x13_2 t361 t364 t365 = some (r1, r2, r3)) ∧ Aside0 (kq ≤ kj10) ∧ Aside0 (Kd.R k54 54 w' w.heap.size (fun _ => True) (.slice Ao14 t361.length co14) t361) ∧ Aside0 (w'.heap[gb367]? = some (.cells #[(.slice Ao14 t361.length co14), .bool t364, .int .i64 t365] 48 (0, 0))) ∧ Aside0 (Below w.heap.size w w'))
            case atStart => exact ⟨(a1), (730), (0), (by first | rfl | (simp; done) | (simp [*]; done)), (by first | rfl | (simp; done) | (simp [*]; done)), (by first | rfl | (simp; done) | (simp [*]; done)), H', ⟨Nat.le_refl _⟩, ⟨by (with_reducible repeat (first | apply Kd.R_alloc | apply Kd.R_drewN | apply Kd.R_drew)); exact HO_368000.out⟩, ⟨by (with_reducible repeat (first | refine blk_drewN ?_ _ | refine blk_drew ?_ | refine blk_alloc ?_ _)); exact BK367.out⟩, ⟨by repeat (first | (with_reducible first | exact HB.out | apply below_alloc | apply pw_below_drewN | apply below_drew1 | refine below_set ?_ GE367.out) | exact HB.out)⟩⟩
            case round =>
              clear H'
              try clear c1
              try clear c2
              try clear p2
              try clear c3
              try clear c4
              try clear c5
              try clear c5b0
              try clear c17
              try clear c18
              try clear hcz15_0
              try clear hcz15_1
              try clear hcz15_2
              try clear hcz9_0
              try clear hcz9_1
              try clear hcz9_2
              try clear hfz15_0
              try clear hfz15_1
              try clear hfz15_2
              try clear hfz9_0
              try clear hfz9_1
              try clear hfz9_2
              try clear p2
              obtain ⟨x11_2, x12_2, x13_2, rfl, rfl, rfl, HA, HK2, HO_368000, BK367, HB⟩ := hrel
              cases gk with
              | zero => exact absurd HA.out (by simp [epactref22_Utc.l0])
              | succ k2 =>
                have H := HA.out
                clear HA
                simp only [epactref22_Utc.l0] at H
                by_cases c19 : x13_2 < (t361.length : Int)
                · rw [if_pos c19] at H
                  have c19b0 : decide (x13_2 < (t361.length : Int)) = true := decide_eq_true c19
                  clear c19
                  by_cases c20 : 0 ≤ x13_2
                  · rw [if_pos c20] at H
                    have c20b0 : decide (0 ≤ x13_2) = true := decide_eq_true c20
                    clear c20
                    by_cases c21 : x11_2 < (wrap64 (86400 * (wrap64 (((rd_T54 t361 x13_2).f0) - x12_2))))
                    · rw [if_pos c21] at H
                      have c21b0 : decide (x11_2 < (wrap64 (86400 * (wrap64 (((rd_T54 t361 x13_2).f0) - x12_2))))) = true := decide_eq_true c21
                      clear c21
                      by_cases c22 : (wrap64 (x12_2 + (wrap64 (Int.tdiv x11_2 86400)))) > 2932896
                      · rw [if_pos c22] at H
                        have c22b0 : decide (2932896 < (wrap64 (x12_2 + (wrap64 (Int.tdiv x11_2 86400))))) = true := decide_eq_true c22
                        clear c22
                        simp only [Option.some.injEq, Prod.mk.injEq] at H
                        obtain ⟨rfl, rfl, rfl⟩ := H
                        have hcz23_0 : wr.cell? ⟨gb367, 0, none⟩ = some (.slice Ao14 t361.length co14) := (blk_cell BK367.out 0).trans rfl
                        have hcz23_1 : wr.cell? ⟨gb367, 1, none⟩ = some (.bool t364) := (blk_cell BK367.out 1).trans rfl
                        have hcz23_2 : wr.cell? ⟨gb367, 2, none⟩ = some (.int .i64 t365) := (blk_cell BK367.out 2).trans rfl
                        have hfz23_0 := blk_frozen BK367.out 0
                        have hfz23_1 := blk_frozen BK367.out 1
                        have hfz23_2 := blk_frozen BK367.out 2
                        have p370 : 0 ≤ (x13_2 : Int) := of_decide_eq_true (by first | (with_reducible assumption) | assumption)
                        have q370 : x13_2 < (t361.length : Int) := of_decide_eq_true (by first | (with_reducible assumption) | assumption)
                        obtain ⟨ad370, e370, hx370_0, hx370_1, hx370_2⟩ := at_T54 (Kd.R_reads' HO_368000.out).2.2 x13_2 p370 q370
                        cases e370
                        replace p370 := eq_true p370
                        replace q370 := eq_true q370
                        go_wp2
                        go_ret3
                        exact ⟨by first | rfl | (simp [errW_none, errW_some] <;> rfl) | (simp [*, errW_none, errW_some] <;> rfl), by repeat (first | (with_reducible first | exact HB.out | apply below_alloc | apply pw_below_drewN | apply below_drew1 | refine below_set ?_ GE367.out) | exact HB.out)⟩
                      · rw [if_neg c22] at H
                        have c22b0 : decide (2932896 < (wrap64 (x12_2 + (wrap64 (Int.tdiv x11_2 86400))))) = false := decide_eq_false c22
                        clear c22
                        simp only [Option.some.injEq, Prod.mk.injEq] at H
                        obtain ⟨rfl, rfl, rfl⟩ := H
                        have hcz24_0 : wr.cell? ⟨gb367, 0, none⟩ = some (.slice Ao14 t361.length co14) := (blk_cell BK367.out 0).trans rfl
                        have hcz24_1 : wr.cell? ⟨gb367, 1, none⟩ = some (.bool t364) := (blk_cell BK367.out 1).trans rfl
                        have hcz24_2 : wr.cell? ⟨gb367, 2, none⟩ = some (.int .i64 t365) := (blk_cell BK367.out 2).trans rfl
                        have hfz24_0 := blk_frozen BK367.out 0
                        have hfz24_1 := blk_frozen BK367.out 1
                        have hfz24_2 := blk_frozen BK367.out 2
                        have p370 : 0 ≤ (x13_2 : Int) := of_decide_eq_true (by first | (with_reducible assumption) | assumption)
                        have q370 : x13_2 < (t361.length : Int) := of_decide_eq_true (by first | (with_reducible assumption) | assumption)
                        obtain ⟨ad370, e370, hx370_0, hx370_1, hx370_2⟩ := at_T54 (Kd.R_reads' HO_368000.out).2.2 x13_2 p370 q370
                        cases e370
                        replace p370 := eq_true p370
                        replace q370 := eq_true q370
                        go_wp2
                        go_ret3
                        exact ⟨by first | rfl | (simp [errW_none, errW_some] <;> rfl) | (simp [*, errW_none, errW_some] <;> rfl), by repeat (first | (with_reducible first | exact HB.out | apply below_alloc | apply pw_below_drewN | apply below_drew1 | refine below_set ?_ GE367.out) | exact HB.out)⟩
                    · rw [if_neg c21] at H
                      have c21b0 : decide (x11_2 < (wrap64 (86400 * (wrap64 (((rd_T54 t361 x13_2).f0) - x12_2))))) = false := decide_eq_false c21
                      clear c21
                      by_cases c25 : (wrap64 (x11_2 - (wrap64 (86400 * (wrap64 (((rd_T54 t361 x13_2).f0) - x12_2)))))) < (wrap64 (86400 + ((rd_T54 t361 x13_2).f1)))
                      · rw [if_pos c25] at H
                        have c25b0 : decide ((wrap64 (x11_2 - (wrap64 (86400 * (wrap64 (((rd_T54 t361 x13_2).f0) - x12_2)))))) < (wrap64 (86400 + ((rd_T54 t361 x13_2).f1)))) = true := decide_eq_true c25
                        clear c25
                        simp only [Option.some.injEq, Prod.mk.injEq] at H
                        obtain ⟨rfl, rfl, rfl⟩ := H
                        have hcz26_0 : wr.cell? ⟨gb367, 0, none⟩ = some (.slice Ao14 t361.length co14) := (blk_cell BK367.out 0).trans rfl
                        have hcz26_1 : wr.cell? ⟨gb367, 1, none⟩ = some (.bool t364) := (blk_cell BK367.out 1).trans rfl
                        have hcz26_2 : wr.cell? ⟨gb367, 2, none⟩ = some (.int .i64 t365) := (blk_cell BK367.out 2).trans rfl
                        have hfz26_0 := blk_frozen BK367.out 0
                        have hfz26_1 := blk_frozen BK367.out 1
                        have hfz26_2 := blk_frozen BK367.out 2
                        have p370 : 0 ≤ (x13_2 : Int) := of_decide_eq_true (by first | (with_reducible assumption) | assumption)
                        have q370 : x13_2 < (t361.length : Int) := of_decide_eq_true (by first | (with_reducible assumption) | assumption)
                        obtain ⟨ad370, e370, hx370_0, hx370_1, hx370_2⟩ := at_T54 (Kd.R_reads' HO_368000.out).2.2 x13_2 p370 q370
                        cases e370
                        replace p370 := eq_true p370
                        replace q370 := eq_true q370
                        have p371 : 0 ≤ (x13_2 : Int) := of_decide_eq_true (by first | (with_reducible assumption) | assumption)
                        have q371 : x13_2 < (t361.length : Int) := of_decide_eq_true (by first | (with_reducible assumption) | assumption)
                        obtain ⟨ad371, e371, hx371_0, hx371_1, hx371_2⟩ := at_T54 (Kd.R_reads' HO_368000.out).2.2 x13_2 p371 q371
                        obtain rfl : ad370 = ad371 := (by injection e371)
                        replace p371 := eq_true p371
                        replace q371 := eq_true q371
                        have p372 : 0 ≤ (x13_2 : Int) := of_decide_eq_true (by first | (with_reducible assumption) | assumption)
                        have q372 : x13_2 < (t361.length : Int) := of_decide_eq_true (by first | (with_reducible assumption) | assumption)
                        obtain ⟨ad372, e372, hx372_0, hx372_1, hx372_2⟩ := at_T54 (Kd.R_reads' HO_368000.out).2.2 x13_2 p372 q372
                        obtain rfl : ad370 = ad372 := (by injection e372)
                        replace p372 := eq_true p372
                        replace q372 := eq_true q372
                        go_wp2
                        go_ret3
                        exact ⟨by first | rfl | (simp [errW_none, errW_some] <;> rfl) | (simp [*, errW_none, errW_some] <;> rfl), by repeat (first | (with_reducible first | exact HB.out | apply below_alloc | apply pw_below_drewN | apply below_drew1 | refine below_set ?_ GE367.out) | exact HB.out)⟩
                      · rw [if_neg c25] at H
                        have c25b0 : decide ((wrap64 (x11_2 - (wrap64 (86400 * (wrap64 (((rd_T54 t361 x13_2).f0) - x12_2)))))) < (wrap64 (86400 + ((rd_T54 t361 x13_2).f1)))) = false := decide_eq_false c25
                        clear c25
                        have H' := Aside0.mk H
                        clear H
                        have hcz27_0 : wr.cell? ⟨gb367, 0, none⟩ = some (.slice Ao14 t361.length co14) := (blk_cell BK367.out 0).trans rfl
                        have hcz27_1 : wr.cell? ⟨gb367, 1, none⟩ = some (.bool t364) := (blk_cell BK367.out 1).trans rfl
                        have hcz27_2 : wr.cell? ⟨gb367, 2, none⟩ = some (.int .i64 t365) := (blk_cell BK367.out 2).trans rfl
                        have hfz27_0 := blk_frozen BK367.out 0
                        have hfz27_1 := blk_frozen BK367.out 1
                        have hfz27_2 := blk_frozen BK367.out 2
                        have p370 : 0 ≤ (x13_2 : Int) := of_decide_eq_true (by first | (with_reducible assumption) | assumption)
                        have q370 : x13_2 < (t361.length : Int) := of_decide_eq_true (by first | (with_reducible assumption) | assumption)
                        obtain ⟨ad370, e370, hx370_0, hx370_1, hx370_2⟩ := at_T54 (Kd.R_reads' HO_368000.out).2.2 x13_2 p370 q370
                        cases e370
                        replace p370 := eq_true p370
                        replace q370 := eq_true q370
                        have p371 : 0 ≤ (x13_2 : Int) := of_decide_eq_true (by first | (with_reducible assumption) | assumption)
                        have q371 : x13_2 < (t361.length : Int) := of_decide_eq_true (by first | (with_reducible assumption) | assumption)
                        obtain ⟨ad371, e371, hx371_0, hx371_1, hx371_2⟩ := at_T54 (Kd.R_reads' HO_368000.out).2.2 x13_2 p371 q371
                        obtain rfl : ad370 = ad371 := (by injection e371)
                        replace p371 := eq_true p371
                        replace q371 := eq_true q371
                        have p372 : 0 ≤ (x13_2 : Int) := of_decide_eq_true (by first | (with_reducible assumption) | assumption)
                        have q372 : x13_2 < (t361.length : Int) := of_decide_eq_true (by first | (with_reducible assumption) | assumption)
                        obtain ⟨ad372, e372, hx372_0, hx372_1, hx372_2⟩ := at_T54 (Kd.R_reads' HO_368000.out).2.2 x13_2 p372 q372
                        obtain rfl : ad370 = ad372 := (by injection e372)
                        replace p372 := eq_true p372
                        replace q372 := eq_true q372
                        have p373 : 0 ≤ (x13_2 : Int) := of_decide_eq_true (by first | (with_reducible assumption) | assumption)
                        have q373 : x13_2 < (t361.length : Int) := of_decide_eq_true (by first | (with_reducible assumption) | assumption)
                        obtain ⟨ad373, e373, hx373_0, hx373_1, hx373_2⟩ := at_T54 (Kd.R_reads' HO_368000.out).2.2 x13_2 p373 q373
                        obtain rfl : ad370 = ad373 := (by injection e373)
                        replace p373 := eq_true p373
                        replace q373 := eq_true q373
                        go_wp2
                        go_roundg k2
                        case measure => have := HJ10.out; have := HK2.out; omega
                        case rel => exact ⟨(wrap64 ((wrap64 ((wrap64 (x11_2 - (wrap64 (86400 * (wrap64 (((rd_T54 t361 x13_2).f0) - x12_2)))))) - 86400)) - ((rd_T54 t361 x13_2).f1))), (wrap64 (((rd_T54 t361 x13_2).f0) + 1)), (wrap64 (x13_2 + 1)), (by first | rfl | (simp; done) | (simp [*]; done)), (by first | rfl | (simp; done) | (simp [*]; done)), (by first | rfl | (simp; done) | (simp [*]; done)), H', ⟨by have := HJ10.out; have := HK2.out; omega⟩, ⟨by (with_reducible repeat (first | apply Kd.R_alloc | apply Kd.R_drewN | apply Kd.R_drew)); exact HO_368000.out⟩, ⟨by (with_reducible repeat (first | refine blk_drewN ?_ _ | refine blk_drew ?_ | refine blk_alloc ?_ _)); exact BK367.out⟩, ⟨by repeat (first | (with_reducible first | exact HB.out | apply below_alloc | apply pw_below_drewN | apply below_drew1 | refine below_set ?_ GE367.out) | exact HB.out)⟩⟩
                  · rw [if_neg c20] at H
                    exact absurd H (by simp)
                · rw [if_neg c19] at H
                  have c19b0 : decide (x13_2 < (t361.length : Int)) = false := decide_eq_false c19
                  clear c19
                  by_cases c28 : (wrap64 (x12_2 + (wrap64 (Int.tdiv x11_2 86400)))) > 2932896
                  · rw [if_pos c28] at H
                    have c28b0 : decide (2932896 < (wrap64 (x12_2 + (wrap64 (Int.tdiv x11_2 86400))))) = true := decide_eq_true c28
                    clear c28
                    simp only [Option.some.injEq, Prod.mk.injEq] at H
                    obtain ⟨rfl, rfl, rfl⟩ := H
                    have hcz29_0 : wr.cell? ⟨gb367, 0, none⟩ = some (.slice Ao14 t361.length co14) := (blk_cell BK367.out 0).trans rfl
                    have hcz29_1 : wr.cell? ⟨gb367, 1, none⟩ = some (.bool t364) := (blk_cell BK367.out 1).trans rfl
                    have hcz29_2 : wr.cell? ⟨gb367, 2, none⟩ = some (.int .i64 t365) := (blk_cell BK367.out 2).trans rfl
                    have hfz29_0 := blk_frozen BK367.out 0
                    have hfz29_1 := blk_frozen BK367.out 1
                    have hfz29_2 := blk_frozen BK367.out 2
                    go_wp2
                    go_ret3
                    exact ⟨by first | rfl | (simp [errW_none, errW_some] <;> rfl) | (simp [*, errW_none, errW_some] <;> rfl), by repeat (first | (with_reducible first | exact HB.out | apply below_alloc | apply pw_below_drewN | apply below_drew1 | refine below_set ?_ GE367.out) | exact HB.out)⟩
                  · rw [if_neg c28] at H
                    have c28b0 : decide (2932896 < (wrap64 (x12_2 + (wrap64 (Int.tdiv x11_2 86400))))) = false := decide_eq_false c28
                    clear c28
                    simp only [Option.some.injEq, Prod.mk.injEq] at H
                    obtain ⟨rfl, rfl, rfl⟩ := H
                    have hcz30_0 : wr.cell? ⟨gb367, 0, none⟩ = some (.slice Ao14 t361.length co14) := (blk_cell BK367.out 0).trans rfl
                    have hcz30_1 : wr.cell? ⟨gb367, 1, none⟩ = some (.bool t364) := (blk_cell BK367.out 1).trans rfl
                    have hcz30_2 : wr.cell? ⟨gb367, 2, none⟩ = some (.int .i64 t365) := (blk_cell BK367.out 2).trans rfl
                    have hfz30_0 := blk_frozen BK367.out 0
                    have hfz30_1 := blk_frozen BK367.out 1
                    have hfz30_2 := blk_frozen BK367.out 2
                    go_wp2
                    go_ret3
                    exact ⟨by first | rfl | (simp [errW_none, errW_some] <;> rfl) | (simp [*, errW_none, errW_some] <;> rfl), by repeat (first | (with_reducible first | exact HB.out | apply below_alloc | apply pw_below_drewN | apply below_drew1 | refine below_set ?_ GE367.out) | exact HB.out)⟩
  · replace c4 := Bool.eq_false_iff.mpr c4
    subst c4
    have H1 : (some (0, 0, 1)) = some (r1, r2, r3) := by rw [if_neg (show ¬ (false = true) by decide)] at H; exact H
    clear H
    have H := H1
    clear H1
    simp only [Option.some.injEq, Prod.mk.injEq] at H
    obtain ⟨rfl, rfl, rfl⟩ := H
    go_enter Try.func27, Try.ntmps27
    go_wp2_with (first | ((with_reducible refine gate_callee (f := 36) rfl ?_); refine goesL_ (some 17) rfl rfl Try.func36 (by kernel_rfl) rfl #[.slice A0 l0.length c0] rfl (by (try simp only [List.map_toArray, List.map_cons, List.map_nil]); first | done | rfl | (simp only [List.length_drop, List.length_take]; rfl)) ?_; (with_reducible refine (epactref22_table.calls k _ _ l0 t361 t364 t365 false _ ?side1 ?side2 A3.out).mono ?_); (case side1 => repeat (first | exact HR0.out | (with_reducible refine Kd.C_alloc ?_ _) | (with_reducible refine Kd.C_drewN ?_ _) | (with_reducible refine Kd.C_drew ?_))); (case side2 => exact HC0.out); rintro e w31 ⟨v362, rfl, ho0, hb⟩; refine ⟨_, rfl, ?_⟩; have n0_ := Aside0.mk (Kd.R_lower ho0 (below_size (by repeat (first | (with_reducible first | exact HB.out | apply below_alloc | apply pw_below_drewN | apply below_drew1) | exact HB.out)))); have n1_ := Aside0.mk (below_step (by repeat (first | (with_reducible first | exact HB.out | apply below_alloc | apply pw_below_drewN | apply below_drew1) | exact HB.out)) hb); clear HB; have HO363 := n0_; have HB := n1_; clear n0_ n1_; (try clear hb); (try clear hb2); (try clear hk); (try clear hi); (try clear ho0)) | ((with_reducible refine gate_dst (N := 7) rfl ?_); refine box_event ?hg (N := 7) ?hd (cs := #[.slice none 0 0, .bool false, .int .i64 0]) (t := 48) ?hr ?_; (case hd => rfl); (case hg => rfl); (case hr => first | (go_simp; done) | (go_simp; rfl)); intro gb367 hg w32 hbox hb; have n0_ := Aside0.mk (Kd.R_below (by (with_reducible repeat (first | apply Kd.R_alloc | apply Kd.R_drewN | apply Kd.R_drew)); exact HO363.out) hb); have n1_ := Aside0.mk (below_step (by repeat (first | (with_reducible first | exact HB.out | apply below_alloc | apply pw_below_drewN | apply below_drew1) | exact HB.out)) hb); have n2_ := Aside0.mk (hbox); have n3_ := Aside0.mk ((by rw [hg]; exact (below_size (by repeat (first | (with_reducible first | exact HB.out | apply below_alloc | apply pw_below_drewN | apply below_drew1) | exact HB.out))) : w.heap.size ≤ gb367)); have n4_ := Aside0.mk ((by rw [hg]; exact (below_size (by repeat (first | (with_reducible first | exact HB.out | apply below_alloc | apply pw_below_drewN | apply below_drew1) | exact HB.out))) : w.heap.size ≤ gb367)); clear HO363; clear HB; have HO363 := n0_; have HB := n1_; have BK367 := n2_; have GW367 := n3_; have GE367 := n4_; clear n0_ n1_ n2_ n3_ n4_; clear hb hbox hg; obtain ⟨Ao33, co33, eo33⟩ := Kd.R_slice HO363.out; subst eo33; have hcz34_0 : w32.cell? ⟨gb367, 0, none⟩ = some (.slice none 0 0) := (blk_cell BK367.out 0).trans rfl; have hcz34_1 : w32.cell? ⟨gb367, 1, none⟩ = some (.bool false) := (blk_cell BK367.out 1).trans rfl; have hcz34_2 : w32.cell? ⟨gb367, 2, none⟩ = some (.int .i64 0) := (blk_cell BK367.out 2).trans rfl; have hfz34_0 := blk_frozen BK367.out 0; have hfz34_1 := blk_frozen BK367.out 1; have hfz34_2 := blk_frozen BK367.out 2))
    go_ret3
    exact ⟨by first | rfl | (simp [errW_none, errW_some] <;> rfl) | (simp [*, errW_none, errW_some] <;> rfl), by repeat (first | (with_reducible first | exact HB.out | apply below_alloc | apply pw_below_drewN | apply below_drew1 | refine below_set ?_ GE367.out) | exact HB.out)⟩

/-! ### epactref23_From: function 18 -/
def epactref23_From.f (k : Nat) (l0 : List (S40)) (a1 : Int) : Option (Int × Int) := (epactref22_Utc.f k l0 a1).bind fun bt374 => (if bt374.2.2 = 0 then ((epactref23_Of.f bt374.1 bt374.2.1).bind fun bt377 => (some (bt377.1, 0))) else (some (0, bt374.2.2)))
theorem epactref23_From.mono : ∀ a0 a1 k, LeO (epactref23_From.f k a0 a1) (epactref23_From.f (k + 1) a0 a1) := by
  intro a0 a1 k
  unfold epactref23_From.f
  repeat' first
      | (with_reducible exact epactref22_Utc.mono _ _ _)
      | (with_reducible exact LeO.refl _)
      | (with_reducible exact LeO.none _)
      | (with_reducible refine LeO.ite ?_ ?_)
      | (with_reducible refine LeO.bind ?_ (fun _ => ?_))
      | exact epactref22_Utc.mono _ _ _
      | exact LeO.none _
      | refine LeO.ite ?_ ?_
      | refine LeO.bind ?_ (fun _ => ?_)
set_option maxHeartbeats 8000000 in
set_option maxRecDepth 100000 in
theorem epactref23_From.calls (k : Nat) (A0 : Option Addr) (c0 : Nat) (l0 : List (S40)) (a1 : Int) (r1 : Int) (r2 : Int) (w : World) (hr0 : Kd.C k40 w A0 l0.length l0) (hc0 : l0.length ≤ c0) (h : epactref23_From.f k l0 a1 = some (r1, r2)) :
    Calls Try.prog 18 #[.slice A0 l0.length c0, .int .i64 a1] w fun e w' => e = .returned (.tuple #[.int .i64 r1, .int .i64 r2]) ∧ Below w.heap.size w w' := by
  have HR0 := Aside0.mk hr0
  have HC0 := Aside0.mk hc0
  clear hr0 hc0
  have HB := Aside0.mk (Below.refl w.heap.size w)
  have H : ((epactref22_Utc.f k l0 a1).bind fun bt374 => (if bt374.2.2 = 0 then ((epactref23_Of.f bt374.1 bt374.2.1).bind fun bt377 => (some (bt377.1, 0))) else (some (0, bt374.2.2)))) = some (r1, r2) := h
  clear h
  replace H := Option.bind_eq_some_iff.mp H
  obtain ⟨⟨t374, t375, t376⟩, A30, H⟩ := H
  replace H : (if t376 = 0 then ((epactref23_Of.f t374 t375).bind fun bt377 => (some (bt377.1, 0))) else (some (0, t376))) = some (r1, r2) := H
  have A3 := Aside0.mk A30
  clear A30
  by_cases c4 : t376 = 0
  · rw [if_pos c4] at H
    have c4b0 : (t376 == 0) = true := beq_iff_eq.mpr c4
    have c4b1 : (t376 != 0) = false := bne_eq_false_iff_eq.mpr c4
    clear c4
    replace H := Option.bind_eq_some_iff.mp H
    obtain ⟨⟨t377, t378⟩, A50, H⟩ := H
    replace H : (some (t377, 0)) = some (r1, r2) := H
    have A5 := Aside0.mk A50
    clear A50
    simp only [Option.some.injEq, Prod.mk.injEq] at H
    obtain ⟨rfl, rfl⟩ := H
    go_enter Try.func18, Try.ntmps18
    go_wp2_with (first | ((with_reducible refine gate_callee (f := 27) rfl ?_); refine goesL_ (some 14) rfl rfl Try.func27 (by kernel_rfl) rfl #[.slice A0 l0.length c0, .int .i64 a1] rfl (by (try simp only [List.map_toArray, List.map_cons, List.map_nil]); first | done | rfl | (simp only [List.length_drop, List.length_take]; rfl)) ?_; (with_reducible refine (epactref22_Utc.calls k _ _ l0 a1 t374 t375 t376 _ ?side1 ?side2 A3.out).mono ?_); (case side1 => repeat (first | exact HR0.out | (with_reducible refine Kd.C_alloc ?_ _) | (with_reducible refine Kd.C_drewN ?_ _) | (with_reducible refine Kd.C_drew ?_))); (case side2 => exact HC0.out); rintro e w6 ⟨rfl, hb⟩; refine ⟨_, rfl, ?_⟩; have n0_ := Aside0.mk (below_step (by repeat (first | (with_reducible first | exact HB.out | apply below_alloc | apply pw_below_drewN | apply below_drew1) | exact HB.out)) hb); clear HB; have HB := n0_; clear n0_; (try clear hb); (try clear hb2); (try clear hk); (try clear hi)) | ((with_reducible refine gate_callee (f := 10) rfl ?_); refine goesL_ (some 24) rfl rfl Try.func10 (by kernel_rfl) rfl #[.int .i64 t374, .int .i64 t375] rfl (by (try simp only [List.map_toArray, List.map_cons, List.map_nil]); first | done | rfl | (simp only [List.length_drop, List.length_take]; rfl)) ?_; (with_reducible refine (epactref23_Of.calls t374 t375 t377 t378 _ A5.out).mono ?_); rintro e w7 ⟨rfl, hb⟩; refine ⟨_, rfl, ?_⟩; have n0_ := Aside0.mk (below_step (by repeat (first | (with_reducible first | exact HB.out | apply below_alloc | apply pw_below_drewN | apply below_drew1) | exact HB.out)) hb); clear HB; have HB := n0_; clear n0_; (try clear hb); (try clear hb2); (try clear hk); (try clear hi)))
    go_ret2
    exact ⟨by first | rfl | (simp [errW_none, errW_some] <;> rfl) | (simp [*, errW_none, errW_some] <;> rfl), by repeat (first | (with_reducible first | exact HB.out | apply below_alloc | apply pw_below_drewN | apply below_drew1) | exact HB.out)⟩
  · rw [if_neg c4] at H
    have c4b0 : (t376 == 0) = false := beq_eq_false_iff_ne.mpr c4
    have c4b1 : (t376 != 0) = true := bne_iff_ne.mpr c4
    simp only [Option.some.injEq, Prod.mk.injEq] at H
    obtain ⟨rfl, rfl⟩ := H
    go_enter Try.func18, Try.ntmps18
    go_wp2_with (first | ((with_reducible refine gate_callee (f := 27) rfl ?_); refine goesL_ (some 14) rfl rfl Try.func27 (by kernel_rfl) rfl #[.slice A0 l0.length c0, .int .i64 a1] rfl (by (try simp only [List.map_toArray, List.map_cons, List.map_nil]); first | done | rfl | (simp only [List.length_drop, List.length_take]; rfl)) ?_; (with_reducible refine (epactref22_Utc.calls k _ _ l0 a1 t374 t375 t376 _ ?side1 ?side2 A3.out).mono ?_); (case side1 => repeat (first | exact HR0.out | (with_reducible refine Kd.C_alloc ?_ _) | (with_reducible refine Kd.C_drewN ?_ _) | (with_reducible refine Kd.C_drew ?_))); (case side2 => exact HC0.out); rintro e w8 ⟨rfl, hb⟩; refine ⟨_, rfl, ?_⟩; have n0_ := Aside0.mk (below_step (by repeat (first | (with_reducible first | exact HB.out | apply below_alloc | apply pw_below_drewN | apply below_drew1) | exact HB.out)) hb); clear HB; have HB := n0_; clear n0_; (try clear hb); (try clear hb2); (try clear hk); (try clear hi)))
    go_ret2
    exact ⟨by first | rfl | (simp [errW_none, errW_some] <;> rfl) | (simp [*, errW_none, errW_some] <;> rfl), by repeat (first | (with_reducible first | exact HB.out | apply below_alloc | apply pw_below_drewN | apply below_drew1) | exact HB.out)⟩

/-! ### epactref23_Twice: function 20 -/
def epactref23_Twice.f (k : Nat) (l0 : List (S40)) (a1 : Int) : Option (Bool × Int) := (epactref23_Tai.f k l0 a1).bind fun bt379 => (if bt379.2 = 0 then ((epactref23_From.f k l0 (wrap64 (bt379.1 + 1))).bind fun bt381 => (if bt381.2 = 0 then (some ((bt381.1 == a1), 0)) else (some (false, 0)))) else (some (false, bt379.2)))
theorem epactref23_Twice.mono : ∀ a0 a1 k, LeO (epactref23_Twice.f k a0 a1) (epactref23_Twice.f (k + 1) a0 a1) := by
  intro a0 a1 k
  unfold epactref23_Twice.f
  repeat' first
      | (with_reducible exact epactref23_From.mono _ _ _)
      | (with_reducible exact epactref23_Tai.mono _ _ _)
      | (with_reducible exact LeO.refl _)
      | (with_reducible exact LeO.none _)
      | (with_reducible refine LeO.ite ?_ ?_)
      | (with_reducible refine LeO.bind ?_ (fun _ => ?_))
      | exact epactref23_From.mono _ _ _
      | exact epactref23_Tai.mono _ _ _
      | exact LeO.none _
      | refine LeO.ite ?_ ?_
      | refine LeO.bind ?_ (fun _ => ?_)
set_option maxHeartbeats 8000000 in
set_option maxRecDepth 100000 in
theorem epactref23_Twice.calls (k : Nat) (A0 : Option Addr) (c0 : Nat) (l0 : List (S40)) (a1 : Int) (r1 : Bool) (r2 : Int) (w : World) (hr0 : Kd.C k40 w A0 l0.length l0) (hc0 : l0.length ≤ c0) (h : epactref23_Twice.f k l0 a1 = some (r1, r2)) :
    Calls Try.prog 20 #[.slice A0 l0.length c0, .int .i64 a1] w fun e w' => e = .returned (.tuple #[.bool r1, .int .i64 r2]) ∧ Below w.heap.size w w' := by
  have HR0 := Aside0.mk hr0
  have HC0 := Aside0.mk hc0
  clear hr0 hc0
  have HB := Aside0.mk (Below.refl w.heap.size w)
  have H : ((epactref23_Tai.f k l0 a1).bind fun bt379 => (if bt379.2 = 0 then ((epactref23_From.f k l0 (wrap64 (bt379.1 + 1))).bind fun bt381 => (if bt381.2 = 0 then (some ((bt381.1 == a1), 0)) else (some (false, 0)))) else (some (false, bt379.2)))) = some (r1, r2) := h
  clear h
  replace H := Option.bind_eq_some_iff.mp H
  obtain ⟨⟨t379, t380⟩, A30, H⟩ := H
  replace H : (if t380 = 0 then ((epactref23_From.f k l0 (wrap64 (t379 + 1))).bind fun bt381 => (if bt381.2 = 0 then (some ((bt381.1 == a1), 0)) else (some (false, 0)))) else (some (false, t380))) = some (r1, r2) := H
  have A3 := Aside0.mk A30
  clear A30
  by_cases c4 : t380 = 0
  · rw [if_pos c4] at H
    have c4b0 : (t380 == 0) = true := beq_iff_eq.mpr c4
    have c4b1 : (t380 != 0) = false := bne_eq_false_iff_eq.mpr c4
    clear c4
    replace H := Option.bind_eq_some_iff.mp H
    obtain ⟨⟨t381, t382⟩, A50, H⟩ := H
    replace H : (if t382 = 0 then (some ((t381 == a1), 0)) else (some (false, 0))) = some (r1, r2) := H
    have A5 := Aside0.mk A50
    clear A50
    by_cases c6 : t382 = 0
    · rw [if_pos c6] at H
      have c6b0 : (t382 == 0) = true := beq_iff_eq.mpr c6
      have c6b1 : (t382 != 0) = false := bne_eq_false_iff_eq.mpr c6
      clear c6
      simp only [Option.some.injEq, Prod.mk.injEq] at H
      obtain ⟨rfl, rfl⟩ := H
      go_enter Try.func20, Try.ntmps20
      go_wp2_with (first | ((with_reducible refine gate_callee (f := 16) rfl ?_); refine goesL_ (some 13) rfl rfl Try.func16 (by kernel_rfl) rfl #[.slice A0 l0.length c0, .int .i64 a1] rfl (by (try simp only [List.map_toArray, List.map_cons, List.map_nil]); first | done | rfl | (simp only [List.length_drop, List.length_take]; rfl)) ?_; (with_reducible refine (epactref23_Tai.calls k _ _ l0 a1 t379 t380 _ ?side1 ?side2 A3.out).mono ?_); (case side1 => repeat (first | exact HR0.out | (with_reducible refine Kd.C_alloc ?_ _) | (with_reducible refine Kd.C_drewN ?_ _) | (with_reducible refine Kd.C_drew ?_))); (case side2 => exact HC0.out); rintro e w7 ⟨rfl, hb⟩; refine ⟨_, rfl, ?_⟩; have n0_ := Aside0.mk (below_step (by repeat (first | (with_reducible first | exact HB.out | apply below_alloc | apply pw_below_drewN | apply below_drew1) | exact HB.out)) hb); clear HB; have HB := n0_; clear n0_; (try clear hb); (try clear hb2); (try clear hk); (try clear hi)) | ((with_reducible refine gate_callee (f := 18) rfl ?_); refine goesL_ (some 23) rfl rfl Try.func18 (by kernel_rfl) rfl #[.slice A0 l0.length c0, .int .i64 (wrap64 (t379 + 1))] rfl (by (try simp only [List.map_toArray, List.map_cons, List.map_nil]); first | done | rfl | (simp only [List.length_drop, List.length_take]; rfl)) ?_; (with_reducible refine (epactref23_From.calls k _ _ l0 (wrap64 (t379 + 1)) t381 t382 _ ?side1 ?side2 A5.out).mono ?_); (case side1 => repeat (first | exact (Kd.C_below HR0.out HB.out) | (with_reducible refine Kd.C_alloc ?_ _) | (with_reducible refine Kd.C_drewN ?_ _) | (with_reducible refine Kd.C_drew ?_))); (case side2 => exact HC0.out); rintro e w8 ⟨rfl, hb⟩; refine ⟨_, rfl, ?_⟩; have n0_ := Aside0.mk (below_step (by repeat (first | (with_reducible first | exact HB.out | apply below_alloc | apply pw_below_drewN | apply below_drew1) | exact HB.out)) hb); clear HB; have HB := n0_; clear n0_; (try clear hb); (try clear hb2); (try clear hk); (try clear hi)))
      go_ret2
      exact ⟨by first | rfl | (simp [errW_none, errW_some] <;> rfl) | (simp [*, errW_none, errW_some] <;> rfl), by repeat (first | (with_reducible first | exact HB.out | apply below_alloc | apply pw_below_drewN | apply below_drew1) | exact HB.out)⟩
    · rw [if_neg c6] at H
      have c6b0 : (t382 == 0) = false := beq_eq_false_iff_ne.mpr c6
      have c6b1 : (t382 != 0) = true := bne_iff_ne.mpr c6
      simp only [Option.some.injEq, Prod.mk.injEq] at H
      obtain ⟨rfl, rfl⟩ := H
      go_enter Try.func20, Try.ntmps20
      go_wp2_with (first | ((with_reducible refine gate_callee (f := 16) rfl ?_); refine goesL_ (some 13) rfl rfl Try.func16 (by kernel_rfl) rfl #[.slice A0 l0.length c0, .int .i64 a1] rfl (by (try simp only [List.map_toArray, List.map_cons, List.map_nil]); first | done | rfl | (simp only [List.length_drop, List.length_take]; rfl)) ?_; (with_reducible refine (epactref23_Tai.calls k _ _ l0 a1 t379 t380 _ ?side1 ?side2 A3.out).mono ?_); (case side1 => repeat (first | exact HR0.out | (with_reducible refine Kd.C_alloc ?_ _) | (with_reducible refine Kd.C_drewN ?_ _) | (with_reducible refine Kd.C_drew ?_))); (case side2 => exact HC0.out); rintro e w9 ⟨rfl, hb⟩; refine ⟨_, rfl, ?_⟩; have n0_ := Aside0.mk (below_step (by repeat (first | (with_reducible first | exact HB.out | apply below_alloc | apply pw_below_drewN | apply below_drew1) | exact HB.out)) hb); clear HB; have HB := n0_; clear n0_; (try clear hb); (try clear hb2); (try clear hk); (try clear hi)) | ((with_reducible refine gate_callee (f := 18) rfl ?_); refine goesL_ (some 23) rfl rfl Try.func18 (by kernel_rfl) rfl #[.slice A0 l0.length c0, .int .i64 (wrap64 (t379 + 1))] rfl (by (try simp only [List.map_toArray, List.map_cons, List.map_nil]); first | done | rfl | (simp only [List.length_drop, List.length_take]; rfl)) ?_; (with_reducible refine (epactref23_From.calls k _ _ l0 (wrap64 (t379 + 1)) t381 t382 _ ?side1 ?side2 A5.out).mono ?_); (case side1 => repeat (first | exact (Kd.C_below HR0.out HB.out) | (with_reducible refine Kd.C_alloc ?_ _) | (with_reducible refine Kd.C_drewN ?_ _) | (with_reducible refine Kd.C_drew ?_))); (case side2 => exact HC0.out); rintro e w10 ⟨rfl, hb⟩; refine ⟨_, rfl, ?_⟩; have n0_ := Aside0.mk (below_step (by repeat (first | (with_reducible first | exact HB.out | apply below_alloc | apply pw_below_drewN | apply below_drew1) | exact HB.out)) hb); clear HB; have HB := n0_; clear n0_; (try clear hb); (try clear hb2); (try clear hk); (try clear hi)))
      go_ret2
      exact ⟨by first | rfl | (simp [errW_none, errW_some] <;> rfl) | (simp [*, errW_none, errW_some] <;> rfl), by repeat (first | (with_reducible first | exact HB.out | apply below_alloc | apply pw_below_drewN | apply below_drew1) | exact HB.out)⟩
  · rw [if_neg c4] at H
    have c4b0 : (t380 == 0) = false := beq_eq_false_iff_ne.mpr c4
    have c4b1 : (t380 != 0) = true := bne_iff_ne.mpr c4
    simp only [Option.some.injEq, Prod.mk.injEq] at H
    obtain ⟨rfl, rfl⟩ := H
    go_enter Try.func20, Try.ntmps20
    go_wp2_with (first | ((with_reducible refine gate_callee (f := 16) rfl ?_); refine goesL_ (some 13) rfl rfl Try.func16 (by kernel_rfl) rfl #[.slice A0 l0.length c0, .int .i64 a1] rfl (by (try simp only [List.map_toArray, List.map_cons, List.map_nil]); first | done | rfl | (simp only [List.length_drop, List.length_take]; rfl)) ?_; (with_reducible refine (epactref23_Tai.calls k _ _ l0 a1 t379 t380 _ ?side1 ?side2 A3.out).mono ?_); (case side1 => repeat (first | exact HR0.out | (with_reducible refine Kd.C_alloc ?_ _) | (with_reducible refine Kd.C_drewN ?_ _) | (with_reducible refine Kd.C_drew ?_))); (case side2 => exact HC0.out); rintro e w11 ⟨rfl, hb⟩; refine ⟨_, rfl, ?_⟩; have n0_ := Aside0.mk (below_step (by repeat (first | (with_reducible first | exact HB.out | apply below_alloc | apply pw_below_drewN | apply below_drew1) | exact HB.out)) hb); clear HB; have HB := n0_; clear n0_; (try clear hb); (try clear hb2); (try clear hk); (try clear hi)))
    go_ret2
    exact ⟨by first | rfl | (simp [errW_none, errW_some] <;> rfl) | (simp [*, errW_none, errW_some] <;> rfl), by repeat (first | (with_reducible first | exact HB.out | apply below_alloc | apply pw_below_drewN | apply below_drew1) | exact HB.out)⟩

/-! ### epactlaw23_PosixTells: function 3 -/
def epactlaw23_PosixTells.f (k : Nat) (l0 : List (S40)) (a1 : Int) (a2 : Int) (a3 : Int) : Option (Bool) := (epactlaw23_small.f k).bind fun t383 => (if (l0.length : Int) > 300 then (some t383) else ((posix_Of.f a2 a3).bind fun bt384 => ((epactref23_Of.f a2 a3).bind fun bt386 => ((posix_Day.f a1).bind fun bt388 => ((epactref23_Day.f a1).bind fun bt390 => ((posix_Utc.f k l0 a1).bind fun bt392 => ((epactref23_Utc.f k l0 a1).bind fun bt395 => ((posix_Tai.f k l0 a1).bind fun bt398 => ((epactref23_Tai.f k l0 a1).bind fun bt400 => ((posix_From.f k l0 a1).bind fun bt402 => ((epactref23_From.f k l0 a1).bind fun bt404 => ((posix_Twice.f k l0 a1).bind fun bt406 => ((epactref23_Twice.f k l0 a1).bind fun bt408 => (if t383 = true then (if bt384.1 = bt386.1 then (if (bt384.2 == bt386.2) = true then (if bt388.1 = bt390.1 then (if bt388.2 = bt390.2 then (if bt392.1 = bt395.1 then (if bt392.2.1 = bt395.2.1 then (if bt392.2.2 = bt395.2.2 then (if bt398.1 = bt400.1 then (if bt398.2 = bt400.2 then (if bt402.1 = bt404.1 then (if bt402.2 = bt404.2 then (if (bt406.1 == bt408.1) = true then (some (bt406.2 == bt408.2)) else (none)) else (none)) else (none)) else (none)) else (none)) else (none)) else (none)) else (none)) else (none)) else (none)) else (none)) else (none)) else (none)))))))))))))))
theorem epactlaw23_PosixTells.mono : ∀ a0 a1 a2 a3 k, LeO (epactlaw23_PosixTells.f k a0 a1 a2 a3) (epactlaw23_PosixTells.f (k + 1) a0 a1 a2 a3) := by
  intro a0 a1 a2 a3 k
  unfold epactlaw23_PosixTells.f
  repeat' first
      | (with_reducible exact epactlaw23_small.mono _)
      | (with_reducible exact epactref23_From.mono _ _ _)
      | (with_reducible exact epactref23_Tai.mono _ _ _)
      | (with_reducible exact epactref23_Twice.mono _ _ _)
      | (with_reducible exact epactref23_Utc.mono _ _ _)
      | (with_reducible exact posix_From.mono _ _ _)
      | (with_reducible exact posix_Tai.mono _ _ _)
      | (with_reducible exact posix_Twice.mono _ _ _)
      | (with_reducible exact posix_Utc.mono _ _ _)
      | (with_reducible exact LeO.refl _)
      | (with_reducible exact LeO.none _)
      | (with_reducible refine LeO.ite ?_ ?_)
      | (with_reducible refine LeO.bind ?_ (fun _ => ?_))
      | exact epactlaw23_small.mono _
      | exact epactref23_From.mono _ _ _
      | exact epactref23_Tai.mono _ _ _
      | exact epactref23_Twice.mono _ _ _
      | exact epactref23_Utc.mono _ _ _
      | exact posix_From.mono _ _ _
      | exact posix_Tai.mono _ _ _
      | exact posix_Twice.mono _ _ _
      | exact posix_Utc.mono _ _ _
      | exact LeO.none _
      | refine LeO.ite ?_ ?_
      | refine LeO.bind ?_ (fun _ => ?_)
set_option maxHeartbeats 8000000 in
set_option maxRecDepth 100000 in
theorem epactlaw23_PosixTells.calls (k : Nat) (A0 : Option Addr) (c0 : Nat) (l0 : List (S40)) (a1 : Int) (a2 : Int) (a3 : Int) (r : Bool) (w : World) (hr0 : Kd.C k40 w A0 l0.length l0) (hc0 : l0.length ≤ c0) (h : epactlaw23_PosixTells.f k l0 a1 a2 a3 = some r) :
    Calls Try.prog 3 #[.slice A0 l0.length c0, .int .i64 a1, .int .i64 a2, .int .i64 a3] w fun e w' => e = .returned (.bool r) ∧ Below w.heap.size w w' := by
  have HR0 := Aside0.mk hr0
  have HC0 := Aside0.mk hc0
  clear hr0 hc0
  have HB := Aside0.mk (Below.refl w.heap.size w)
  have H : ((epactlaw23_small.f k).bind fun t383 => (if (l0.length : Int) > 300 then (some t383) else ((posix_Of.f a2 a3).bind fun bt384 => ((epactref23_Of.f a2 a3).bind fun bt386 => ((posix_Day.f a1).bind fun bt388 => ((epactref23_Day.f a1).bind fun bt390 => ((posix_Utc.f k l0 a1).bind fun bt392 => ((epactref23_Utc.f k l0 a1).bind fun bt395 => ((posix_Tai.f k l0 a1).bind fun bt398 => ((epactref23_Tai.f k l0 a1).bind fun bt400 => ((posix_From.f k l0 a1).bind fun bt402 => ((epactref23_From.f k l0 a1).bind fun bt404 => ((posix_Twice.f k l0 a1).bind fun bt406 => ((epactref23_Twice.f k l0 a1).bind fun bt408 => (if t383 = true then (if bt384.1 = bt386.1 then (if (bt384.2 == bt386.2) = true then (if bt388.1 = bt390.1 then (if bt388.2 = bt390.2 then (if bt392.1 = bt395.1 then (if bt392.2.1 = bt395.2.1 then (if bt392.2.2 = bt395.2.2 then (if bt398.1 = bt400.1 then (if bt398.2 = bt400.2 then (if bt402.1 = bt404.1 then (if bt402.2 = bt404.2 then (if (bt406.1 == bt408.1) = true then (some (bt406.2 == bt408.2)) else (none)) else (none)) else (none)) else (none)) else (none)) else (none)) else (none)) else (none)) else (none)) else (none)) else (none)) else (none)) else (none)))))))))))))))) = some r := h
  clear h
  replace H := Option.bind_eq_some_iff.mp H
  obtain ⟨t383, A50, H⟩ := H
  replace H : (if (l0.length : Int) > 300 then (some t383) else ((posix_Of.f a2 a3).bind fun bt384 => ((epactref23_Of.f a2 a3).bind fun bt386 => ((posix_Day.f a1).bind fun bt388 => ((epactref23_Day.f a1).bind fun bt390 => ((posix_Utc.f k l0 a1).bind fun bt392 => ((epactref23_Utc.f k l0 a1).bind fun bt395 => ((posix_Tai.f k l0 a1).bind fun bt398 => ((epactref23_Tai.f k l0 a1).bind fun bt400 => ((posix_From.f k l0 a1).bind fun bt402 => ((epactref23_From.f k l0 a1).bind fun bt404 => ((posix_Twice.f k l0 a1).bind fun bt406 => ((epactref23_Twice.f k l0 a1).bind fun bt408 => (if t383 = true then (if bt384.1 = bt386.1 then (if (bt384.2 == bt386.2) = true then (if bt388.1 = bt390.1 then (if bt388.2 = bt390.2 then (if bt392.1 = bt395.1 then (if bt392.2.1 = bt395.2.1 then (if bt392.2.2 = bt395.2.2 then (if bt398.1 = bt400.1 then (if bt398.2 = bt400.2 then (if bt402.1 = bt404.1 then (if bt402.2 = bt404.2 then (if (bt406.1 == bt408.1) = true then (some (bt406.2 == bt408.2)) else (none)) else (none)) else (none)) else (none)) else (none)) else (none)) else (none)) else (none)) else (none)) else (none)) else (none)) else (none)) else (none))))))))))))))) = some r := H
  have A5 := Aside0.mk A50
  clear A50
  by_cases c6 : (l0.length : Int) > 300
  · rw [if_pos c6] at H
    have c6b0 : decide (300 < (l0.length : Int)) = true := decide_eq_true c6
    have c6b1 : decide (300 < l0.length) = true := decide_eq_true (by omega)
    clear c6
    obtain rfl := Option.some.inj H
    go_enter Try.func3, Try.ntmps3
    go_wp2_with (first | ((with_reducible refine gate_callee (f := 8) rfl ?_); refine goesL_ (some 36) rfl rfl Try.func8 (by kernel_rfl) rfl #[] rfl (by (try simp only [List.map_toArray, List.map_cons, List.map_nil]); first | done | rfl | (simp only [List.length_drop, List.length_take]; rfl)) ?_; (with_reducible refine (epactlaw23_small.calls k  t383 _ A5.out).mono ?_); rintro e w7 ⟨rfl, hb⟩; refine ⟨_, rfl, ?_⟩; have n0_ := Aside0.mk (below_step (by repeat (first | (with_reducible first | exact HB.out | apply below_alloc | apply pw_below_drewN | apply below_drew1) | exact HB.out)) hb); clear HB; have HB := n0_; clear n0_; (try clear hb); (try clear hb2); (try clear hk); (try clear hi)))
    go_ret
    exact ⟨by first | rfl | (simp [errW_none, errW_some] <;> rfl) | (simp [*, errW_none, errW_some] <;> rfl), by repeat (first | (with_reducible first | exact HB.out | apply below_alloc | apply pw_below_drewN | apply below_drew1) | exact HB.out)⟩
  · rw [if_neg c6] at H
    have c6b0 : decide (300 < (l0.length : Int)) = false := decide_eq_false c6
    have c6b1 : decide (300 < l0.length) = false := decide_eq_false (by omega)
    clear c6
    replace H := Option.bind_eq_some_iff.mp H
    obtain ⟨⟨t384, t385⟩, A80, H⟩ := H
    replace H : ((epactref23_Of.f a2 a3).bind fun bt386 => ((posix_Day.f a1).bind fun bt388 => ((epactref23_Day.f a1).bind fun bt390 => ((posix_Utc.f k l0 a1).bind fun bt392 => ((epactref23_Utc.f k l0 a1).bind fun bt395 => ((posix_Tai.f k l0 a1).bind fun bt398 => ((epactref23_Tai.f k l0 a1).bind fun bt400 => ((posix_From.f k l0 a1).bind fun bt402 => ((epactref23_From.f k l0 a1).bind fun bt404 => ((posix_Twice.f k l0 a1).bind fun bt406 => ((epactref23_Twice.f k l0 a1).bind fun bt408 => (if t383 = true then (if t384 = bt386.1 then (if (t385 == bt386.2) = true then (if bt388.1 = bt390.1 then (if bt388.2 = bt390.2 then (if bt392.1 = bt395.1 then (if bt392.2.1 = bt395.2.1 then (if bt392.2.2 = bt395.2.2 then (if bt398.1 = bt400.1 then (if bt398.2 = bt400.2 then (if bt402.1 = bt404.1 then (if bt402.2 = bt404.2 then (if (bt406.1 == bt408.1) = true then (some (bt406.2 == bt408.2)) else (none)) else (none)) else (none)) else (none)) else (none)) else (none)) else (none)) else (none)) else (none)) else (none)) else (none)) else (none)) else (none))))))))))))) = some r := H
    have A8 := Aside0.mk A80
    clear A80
    replace H := Option.bind_eq_some_iff.mp H
    obtain ⟨⟨t386, t387⟩, A90, H⟩ := H
    replace H : ((posix_Day.f a1).bind fun bt388 => ((epactref23_Day.f a1).bind fun bt390 => ((posix_Utc.f k l0 a1).bind fun bt392 => ((epactref23_Utc.f k l0 a1).bind fun bt395 => ((posix_Tai.f k l0 a1).bind fun bt398 => ((epactref23_Tai.f k l0 a1).bind fun bt400 => ((posix_From.f k l0 a1).bind fun bt402 => ((epactref23_From.f k l0 a1).bind fun bt404 => ((posix_Twice.f k l0 a1).bind fun bt406 => ((epactref23_Twice.f k l0 a1).bind fun bt408 => (if t383 = true then (if t384 = t386 then (if (t385 == t387) = true then (if bt388.1 = bt390.1 then (if bt388.2 = bt390.2 then (if bt392.1 = bt395.1 then (if bt392.2.1 = bt395.2.1 then (if bt392.2.2 = bt395.2.2 then (if bt398.1 = bt400.1 then (if bt398.2 = bt400.2 then (if bt402.1 = bt404.1 then (if bt402.2 = bt404.2 then (if (bt406.1 == bt408.1) = true then (some (bt406.2 == bt408.2)) else (none)) else (none)) else (none)) else (none)) else (none)) else (none)) else (none)) else (none)) else (none)) else (none)) else (none)) else (none)) else (none)))))))))))) = some r := H
    have A9 := Aside0.mk A90
    clear A90
    replace H := Option.bind_eq_some_iff.mp H
    obtain ⟨⟨t388, t389⟩, A100, H⟩ := H
    replace H : ((epactref23_Day.f a1).bind fun bt390 => ((posix_Utc.f k l0 a1).bind fun bt392 => ((epactref23_Utc.f k l0 a1).bind fun bt395 => ((posix_Tai.f k l0 a1).bind fun bt398 => ((epactref23_Tai.f k l0 a1).bind fun bt400 => ((posix_From.f k l0 a1).bind fun bt402 => ((epactref23_From.f k l0 a1).bind fun bt404 => ((posix_Twice.f k l0 a1).bind fun bt406 => ((epactref23_Twice.f k l0 a1).bind fun bt408 => (if t383 = true then (if t384 = t386 then (if (t385 == t387) = true then (if t388 = bt390.1 then (if t389 = bt390.2 then (if bt392.1 = bt395.1 then (if bt392.2.1 = bt395.2.1 then (if bt392.2.2 = bt395.2.2 then (if bt398.1 = bt400.1 then (if bt398.2 = bt400.2 then (if bt402.1 = bt404.1 then (if bt402.2 = bt404.2 then (if (bt406.1 == bt408.1) = true then (some (bt406.2 == bt408.2)) else (none)) else (none)) else (none)) else (none)) else (none)) else (none)) else (none)) else (none)) else (none)) else (none)) else (none)) else (none)) else (none))))))))))) = some r := H
    have A10 := Aside0.mk A100
    clear A100
    replace H := Option.bind_eq_some_iff.mp H
    obtain ⟨⟨t390, t391⟩, A110, H⟩ := H
    replace H : ((posix_Utc.f k l0 a1).bind fun bt392 => ((epactref23_Utc.f k l0 a1).bind fun bt395 => ((posix_Tai.f k l0 a1).bind fun bt398 => ((epactref23_Tai.f k l0 a1).bind fun bt400 => ((posix_From.f k l0 a1).bind fun bt402 => ((epactref23_From.f k l0 a1).bind fun bt404 => ((posix_Twice.f k l0 a1).bind fun bt406 => ((epactref23_Twice.f k l0 a1).bind fun bt408 => (if t383 = true then (if t384 = t386 then (if (t385 == t387) = true then (if t388 = t390 then (if t389 = t391 then (if bt392.1 = bt395.1 then (if bt392.2.1 = bt395.2.1 then (if bt392.2.2 = bt395.2.2 then (if bt398.1 = bt400.1 then (if bt398.2 = bt400.2 then (if bt402.1 = bt404.1 then (if bt402.2 = bt404.2 then (if (bt406.1 == bt408.1) = true then (some (bt406.2 == bt408.2)) else (none)) else (none)) else (none)) else (none)) else (none)) else (none)) else (none)) else (none)) else (none)) else (none)) else (none)) else (none)) else (none)))))))))) = some r := H
    have A11 := Aside0.mk A110
    clear A110
    replace H := Option.bind_eq_some_iff.mp H
    obtain ⟨⟨t392, t393, t394⟩, A120, H⟩ := H
    replace H : ((epactref23_Utc.f k l0 a1).bind fun bt395 => ((posix_Tai.f k l0 a1).bind fun bt398 => ((epactref23_Tai.f k l0 a1).bind fun bt400 => ((posix_From.f k l0 a1).bind fun bt402 => ((epactref23_From.f k l0 a1).bind fun bt404 => ((posix_Twice.f k l0 a1).bind fun bt406 => ((epactref23_Twice.f k l0 a1).bind fun bt408 => (if t383 = true then (if t384 = t386 then (if (t385 == t387) = true then (if t388 = t390 then (if t389 = t391 then (if t392 = bt395.1 then (if t393 = bt395.2.1 then (if t394 = bt395.2.2 then (if bt398.1 = bt400.1 then (if bt398.2 = bt400.2 then (if bt402.1 = bt404.1 then (if bt402.2 = bt404.2 then (if (bt406.1 == bt408.1) = true then (some (bt406.2 == bt408.2)) else (none)) else (none)) else (none)) else (none)) else (none)) else (none)) else (none)) else (none)) else (none)) else (none)) else (none)) else (none)) else (none))))))))) = some r := H
    have A12 := Aside0.mk A120
    clear A120
    replace H := Option.bind_eq_some_iff.mp H
    obtain ⟨⟨t395, t396, t397⟩, A130, H⟩ := H
    replace H : ((posix_Tai.f k l0 a1).bind fun bt398 => ((epactref23_Tai.f k l0 a1).bind fun bt400 => ((posix_From.f k l0 a1).bind fun bt402 => ((epactref23_From.f k l0 a1).bind fun bt404 => ((posix_Twice.f k l0 a1).bind fun bt406 => ((epactref23_Twice.f k l0 a1).bind fun bt408 => (if t383 = true then (if t384 = t386 then (if (t385 == t387) = true then (if t388 = t390 then (if t389 = t391 then (if t392 = t395 then (if t393 = t396 then (if t394 = t397 then (if bt398.1 = bt400.1 then (if bt398.2 = bt400.2 then (if bt402.1 = bt404.1 then (if bt402.2 = bt404.2 then (if (bt406.1 == bt408.1) = true then (some (bt406.2 == bt408.2)) else (none)) else (none)) else (none)) else (none)) else (none)) else (none)) else (none)) else (none)) else (none)) else (none)) else (none)) else (none)) else (none)))))))) = some r := H
    have A13 := Aside0.mk A130
    clear A130
    replace H := Option.bind_eq_some_iff.mp H
    obtain ⟨⟨t398, t399⟩, A140, H⟩ := H
    replace H : ((epactref23_Tai.f k l0 a1).bind fun bt400 => ((posix_From.f k l0 a1).bind fun bt402 => ((epactref23_From.f k l0 a1).bind fun bt404 => ((posix_Twice.f k l0 a1).bind fun bt406 => ((epactref23_Twice.f k l0 a1).bind fun bt408 => (if t383 = true then (if t384 = t386 then (if (t385 == t387) = true then (if t388 = t390 then (if t389 = t391 then (if t392 = t395 then (if t393 = t396 then (if t394 = t397 then (if t398 = bt400.1 then (if t399 = bt400.2 then (if bt402.1 = bt404.1 then (if bt402.2 = bt404.2 then (if (bt406.1 == bt408.1) = true then (some (bt406.2 == bt408.2)) else (none)) else (none)) else (none)) else (none)) else (none)) else (none)) else (none)) else (none)) else (none)) else (none)) else (none)) else (none)) else (none))))))) = some r := H
    have A14 := Aside0.mk A140
    clear A140
    replace H := Option.bind_eq_some_iff.mp H
    obtain ⟨⟨t400, t401⟩, A150, H⟩ := H
    replace H : ((posix_From.f k l0 a1).bind fun bt402 => ((epactref23_From.f k l0 a1).bind fun bt404 => ((posix_Twice.f k l0 a1).bind fun bt406 => ((epactref23_Twice.f k l0 a1).bind fun bt408 => (if t383 = true then (if t384 = t386 then (if (t385 == t387) = true then (if t388 = t390 then (if t389 = t391 then (if t392 = t395 then (if t393 = t396 then (if t394 = t397 then (if t398 = t400 then (if t399 = t401 then (if bt402.1 = bt404.1 then (if bt402.2 = bt404.2 then (if (bt406.1 == bt408.1) = true then (some (bt406.2 == bt408.2)) else (none)) else (none)) else (none)) else (none)) else (none)) else (none)) else (none)) else (none)) else (none)) else (none)) else (none)) else (none)) else (none)))))) = some r := H
    have A15 := Aside0.mk A150
    clear A150
    replace H := Option.bind_eq_some_iff.mp H
    obtain ⟨⟨t402, t403⟩, A160, H⟩ := H
    replace H : ((epactref23_From.f k l0 a1).bind fun bt404 => ((posix_Twice.f k l0 a1).bind fun bt406 => ((epactref23_Twice.f k l0 a1).bind fun bt408 => (if t383 = true then (if t384 = t386 then (if (t385 == t387) = true then (if t388 = t390 then (if t389 = t391 then (if t392 = t395 then (if t393 = t396 then (if t394 = t397 then (if t398 = t400 then (if t399 = t401 then (if t402 = bt404.1 then (if t403 = bt404.2 then (if (bt406.1 == bt408.1) = true then (some (bt406.2 == bt408.2)) else (none)) else (none)) else (none)) else (none)) else (none)) else (none)) else (none)) else (none)) else (none)) else (none)) else (none)) else (none)) else (none))))) = some r := H
    have A16 := Aside0.mk A160
    clear A160
    replace H := Option.bind_eq_some_iff.mp H
    obtain ⟨⟨t404, t405⟩, A170, H⟩ := H
    replace H : ((posix_Twice.f k l0 a1).bind fun bt406 => ((epactref23_Twice.f k l0 a1).bind fun bt408 => (if t383 = true then (if t384 = t386 then (if (t385 == t387) = true then (if t388 = t390 then (if t389 = t391 then (if t392 = t395 then (if t393 = t396 then (if t394 = t397 then (if t398 = t400 then (if t399 = t401 then (if t402 = t404 then (if t403 = t405 then (if (bt406.1 == bt408.1) = true then (some (bt406.2 == bt408.2)) else (none)) else (none)) else (none)) else (none)) else (none)) else (none)) else (none)) else (none)) else (none)) else (none)) else (none)) else (none)) else (none)))) = some r := H
    have A17 := Aside0.mk A170
    clear A170
    replace H := Option.bind_eq_some_iff.mp H
    obtain ⟨⟨t406, t407⟩, A180, H⟩ := H
    replace H : ((epactref23_Twice.f k l0 a1).bind fun bt408 => (if t383 = true then (if t384 = t386 then (if (t385 == t387) = true then (if t388 = t390 then (if t389 = t391 then (if t392 = t395 then (if t393 = t396 then (if t394 = t397 then (if t398 = t400 then (if t399 = t401 then (if t402 = t404 then (if t403 = t405 then (if (t406 == bt408.1) = true then (some (t407 == bt408.2)) else (none)) else (none)) else (none)) else (none)) else (none)) else (none)) else (none)) else (none)) else (none)) else (none)) else (none)) else (none)) else (none))) = some r := H
    have A18 := Aside0.mk A180
    clear A180
    replace H := Option.bind_eq_some_iff.mp H
    obtain ⟨⟨t408, t409⟩, A190, H⟩ := H
    replace H : (if t383 = true then (if t384 = t386 then (if (t385 == t387) = true then (if t388 = t390 then (if t389 = t391 then (if t392 = t395 then (if t393 = t396 then (if t394 = t397 then (if t398 = t400 then (if t399 = t401 then (if t402 = t404 then (if t403 = t405 then (if (t406 == t408) = true then (some (t407 == t409)) else (none)) else (none)) else (none)) else (none)) else (none)) else (none)) else (none)) else (none)) else (none)) else (none)) else (none)) else (none)) else (none)) = some r := H
    have A19 := Aside0.mk A190
    clear A190
    by_cases c20 : t383 = true
    · subst c20
      have H1 : (if t384 = t386 then (if (t385 == t387) = true then (if t388 = t390 then (if t389 = t391 then (if t392 = t395 then (if t393 = t396 then (if t394 = t397 then (if t398 = t400 then (if t399 = t401 then (if t402 = t404 then (if t403 = t405 then (if (t406 == t408) = true then (some (t407 == t409)) else (none)) else (none)) else (none)) else (none)) else (none)) else (none)) else (none)) else (none)) else (none)) else (none)) else (none)) else (none)) = some r := by rw [if_pos rfl] at H; exact H
      clear H
      have H := H1
      clear H1
      by_cases c21 : t384 = t386
      · rw [if_pos c21] at H
        have c21b0 : (t384 == t386) = true := beq_iff_eq.mpr c21
        have c21b1 : (t384 != t386) = false := bne_eq_false_iff_eq.mpr c21
        clear c21
        by_cases c22 : (t385 == t387) = true
        · rw [if_pos c22] at H
          have c22b0 : (t385 == t387) = true := c22
          (try (have c22b1 : decide (t385 = t387) = true := by first | (simp; done) | (simp at c22; done) | simpa using c22))
          (try (have c22b2 : (t385 == t387) = true := by first | (simp; done) | (simp at c22; done) | simpa using c22))
          clear c22
          by_cases c23 : t388 = t390
          · rw [if_pos c23] at H
            have c23b0 : (t388 == t390) = true := beq_iff_eq.mpr c23
            have c23b1 : (t388 != t390) = false := bne_eq_false_iff_eq.mpr c23
            clear c23
            by_cases c24 : t389 = t391
            · rw [if_pos c24] at H
              have c24b0 : (t389 == t391) = true := beq_iff_eq.mpr c24
              have c24b1 : (t389 != t391) = false := bne_eq_false_iff_eq.mpr c24
              clear c24
              by_cases c25 : t392 = t395
              · rw [if_pos c25] at H
                have c25b0 : (t392 == t395) = true := beq_iff_eq.mpr c25
                have c25b1 : (t392 != t395) = false := bne_eq_false_iff_eq.mpr c25
                clear c25
                by_cases c26 : t393 = t396
                · rw [if_pos c26] at H
                  have c26b0 : (t393 == t396) = true := beq_iff_eq.mpr c26
                  have c26b1 : (t393 != t396) = false := bne_eq_false_iff_eq.mpr c26
                  clear c26
                  by_cases c27 : t394 = t397
                  · rw [if_pos c27] at H
                    have c27b0 : (t394 == t397) = true := beq_iff_eq.mpr c27
                    have c27b1 : (t394 != t397) = false := bne_eq_false_iff_eq.mpr c27
                    clear c27
                    by_cases c28 : t398 = t400
                    · rw [if_pos c28] at H
                      have c28b0 : (t398 == t400) = true := beq_iff_eq.mpr c28
                      have c28b1 : (t398 != t400) = false := bne_eq_false_iff_eq.mpr c28
                      clear c28
                      by_cases c29 : t399 = t401
                      · rw [if_pos c29] at H
                        have c29b0 : (t399 == t401) = true := beq_iff_eq.mpr c29
                        have c29b1 : (t399 != t401) = false := bne_eq_false_iff_eq.mpr c29
                        clear c29
                        by_cases c30 : t402 = t404
                        · rw [if_pos c30] at H
                          have c30b0 : (t402 == t404) = true := beq_iff_eq.mpr c30
                          have c30b1 : (t402 != t404) = false := bne_eq_false_iff_eq.mpr c30
                          clear c30
                          by_cases c31 : t403 = t405
                          · rw [if_pos c31] at H
                            have c31b0 : (t403 == t405) = true := beq_iff_eq.mpr c31
                            have c31b1 : (t403 != t405) = false := bne_eq_false_iff_eq.mpr c31
                            clear c31
                            by_cases c32 : (t406 == t408) = true
                            · rw [if_pos c32] at H
                              have c32b0 : (t406 == t408) = true := c32
                              (try (have c32b1 : decide (t406 = t408) = true := by first | (simp; done) | (simp at c32; done) | simpa using c32))
                              (try (have c32b2 : (t406 == t408) = true := by first | (simp; done) | (simp at c32; done) | simpa using c32))
                              clear c32
                              obtain rfl := Option.some.inj H
                              go_enter Try.func3, Try.ntmps3
                              go_wp2_with (first | ((with_reducible refine gate_callee (f := 8) rfl ?_); refine goesL_ (some 36) rfl rfl Try.func8 (by kernel_rfl) rfl #[] rfl (by (try simp only [List.map_toArray, List.map_cons, List.map_nil]); first | done | rfl | (simp only [List.length_drop, List.length_take]; rfl)) ?_; (with_reducible refine (epactlaw23_small.calls k  true _ A5.out).mono ?_); rintro e w33 ⟨rfl, hb⟩; refine ⟨_, rfl, ?_⟩; have n0_ := Aside0.mk (below_step (by repeat (first | (with_reducible first | exact HB.out | apply below_alloc | apply pw_below_drewN | apply below_drew1) | exact HB.out)) hb); clear HB; have HB := n0_; clear n0_; (try clear hb); (try clear hb2); (try clear hk); (try clear hi)) | ((with_reducible refine gate_callee (f := 9) rfl ?_); refine goesL_ (some 44) rfl rfl Try.func9 (by kernel_rfl) rfl #[.int .i64 a2, .int .i64 a3] rfl (by (try simp only [List.map_toArray, List.map_cons, List.map_nil]); first | done | rfl | (simp only [List.length_drop, List.length_take]; rfl)) ?_; (with_reducible refine (posix_Of.calls a2 a3 t384 t385 _ A8.out).mono ?_); rintro e w34 ⟨rfl, hb⟩; refine ⟨_, rfl, ?_⟩; have n0_ := Aside0.mk (below_step (by repeat (first | (with_reducible first | exact HB.out | apply below_alloc | apply pw_below_drewN | apply below_drew1) | exact HB.out)) hb); clear HB; have HB := n0_; clear n0_; (try clear hb); (try clear hb2); (try clear hk); (try clear hi)) | ((with_reducible refine gate_callee (f := 10) rfl ?_); refine goesL_ (some 50) rfl rfl Try.func10 (by kernel_rfl) rfl #[.int .i64 a2, .int .i64 a3] rfl (by (try simp only [List.map_toArray, List.map_cons, List.map_nil]); first | done | rfl | (simp only [List.length_drop, List.length_take]; rfl)) ?_; (with_reducible refine (epactref23_Of.calls a2 a3 t386 t387 _ A9.out).mono ?_); rintro e w35 ⟨rfl, hb⟩; refine ⟨_, rfl, ?_⟩; have n0_ := Aside0.mk (below_step (by repeat (first | (with_reducible first | exact HB.out | apply below_alloc | apply pw_below_drewN | apply below_drew1) | exact HB.out)) hb); clear HB; have HB := n0_; clear n0_; (try clear hb); (try clear hb2); (try clear hk); (try clear hi)) | ((with_reducible refine gate_callee (f := 11) rfl ?_); refine goesL_ (some 55) rfl rfl Try.func11 (by kernel_rfl) rfl #[.int .i64 a1] rfl (by (try simp only [List.map_toArray, List.map_cons, List.map_nil]); first | done | rfl | (simp only [List.length_drop, List.length_take]; rfl)) ?_; (with_reducible refine (posix_Day.calls a1 t388 t389 _ A10.out).mono ?_); rintro e w' ⟨rfl, ⟨nd, rfl⟩⟩; refine ⟨_, rfl, ?_⟩) | ((with_reducible refine gate_callee (f := 12) rfl ?_); refine goesL_ (some 60) rfl rfl Try.func12 (by kernel_rfl) rfl #[.int .i64 a1] rfl (by (try simp only [List.map_toArray, List.map_cons, List.map_nil]); first | done | rfl | (simp only [List.length_drop, List.length_take]; rfl)) ?_; (with_reducible refine (epactref23_Day.calls a1 t390 t391 _ A11.out).mono ?_); rintro e w' ⟨rfl, ⟨nd, rfl⟩⟩; refine ⟨_, rfl, ?_⟩) | ((with_reducible refine gate_callee (f := 13) rfl ?_); refine goesL_ (some 66) rfl rfl Try.func13 (by kernel_rfl) rfl #[.slice A0 l0.length c0, .int .i64 a1] rfl (by (try simp only [List.map_toArray, List.map_cons, List.map_nil]); first | done | rfl | (simp only [List.length_drop, List.length_take]; rfl)) ?_; (with_reducible refine (posix_Utc.calls k _ _ l0 a1 t392 t393 t394 _ ?side1 ?side2 A12.out).mono ?_); (case side1 => repeat (first | exact (Kd.C_below HR0.out (by repeat (first | (with_reducible first | exact HB.out | apply below_alloc | apply pw_below_drewN | apply below_drew1) | exact HB.out))) | (with_reducible refine Kd.C_alloc ?_ _) | (with_reducible refine Kd.C_drewN ?_ _) | (with_reducible refine Kd.C_drew ?_))); (case side2 => exact HC0.out); rintro e w36 ⟨rfl, hb⟩; refine ⟨_, rfl, ?_⟩; have n0_ := Aside0.mk (below_step (by repeat (first | (with_reducible first | exact HB.out | apply below_alloc | apply pw_below_drewN | apply below_drew1) | exact HB.out)) hb); clear HB; have HB := n0_; clear n0_; (try clear hb); (try clear hb2); (try clear hk); (try clear hi)) | ((with_reducible refine gate_callee (f := 14) rfl ?_); refine goesL_ (some 73) rfl rfl Try.func14 (by kernel_rfl) rfl #[.slice A0 l0.length c0, .int .i64 a1] rfl (by (try simp only [List.map_toArray, List.map_cons, List.map_nil]); first | done | rfl | (simp only [List.length_drop, List.length_take]; rfl)) ?_; (with_reducible refine (epactref23_Utc.calls k _ _ l0 a1 t395 t396 t397 _ ?side1 ?side2 A13.out).mono ?_); (case side1 => repeat (first | exact (Kd.C_below HR0.out HB.out) | (with_reducible refine Kd.C_alloc ?_ _) | (with_reducible refine Kd.C_drewN ?_ _) | (with_reducible refine Kd.C_drew ?_))); (case side2 => exact HC0.out); rintro e w37 ⟨rfl, hb⟩; refine ⟨_, rfl, ?_⟩; have n0_ := Aside0.mk (below_step (by repeat (first | (with_reducible first | exact HB.out | apply below_alloc | apply pw_below_drewN | apply below_drew1) | exact HB.out)) hb); clear HB; have HB := n0_; clear n0_; (try clear hb); (try clear hb2); (try clear hk); (try clear hi)) | ((with_reducible refine gate_callee (f := 15) rfl ?_); refine goesL_ (some 80) rfl rfl Try.func15 (by kernel_rfl) rfl #[.slice A0 l0.length c0, .int .i64 a1] rfl (by (try simp only [List.map_toArray, List.map_cons, List.map_nil]); first | done | rfl | (simp only [List.length_drop, List.length_take]; rfl)) ?_; (with_reducible refine (posix_Tai.calls k _ _ l0 a1 t398 t399 _ ?side1 ?side2 A14.out).mono ?_); (case side1 => repeat (first | exact (Kd.C_below HR0.out HB.out) | (with_reducible refine Kd.C_alloc ?_ _) | (with_reducible refine Kd.C_drewN ?_ _) | (with_reducible refine Kd.C_drew ?_))); (case side2 => exact HC0.out); rintro e w38 ⟨rfl, hb⟩; refine ⟨_, rfl, ?_⟩; have n0_ := Aside0.mk (below_step (by repeat (first | (with_reducible first | exact HB.out | apply below_alloc | apply pw_below_drewN | apply below_drew1) | exact HB.out)) hb); clear HB; have HB := n0_; clear n0_; (try clear hb); (try clear hb2); (try clear hk); (try clear hi)) | ((with_reducible refine gate_callee (f := 16) rfl ?_); refine goesL_ (some 86) rfl rfl Try.func16 (by kernel_rfl) rfl #[.slice A0 l0.length c0, .int .i64 a1] rfl (by (try simp only [List.map_toArray, List.map_cons, List.map_nil]); first | done | rfl | (simp only [List.length_drop, List.length_take]; rfl)) ?_; (with_reducible refine (epactref23_Tai.calls k _ _ l0 a1 t400 t401 _ ?side1 ?side2 A15.out).mono ?_); (case side1 => repeat (first | exact (Kd.C_below HR0.out HB.out) | (with_reducible refine Kd.C_alloc ?_ _) | (with_reducible refine Kd.C_drewN ?_ _) | (with_reducible refine Kd.C_drew ?_))); (case side2 => exact HC0.out); rintro e w39 ⟨rfl, hb⟩; refine ⟨_, rfl, ?_⟩; have n0_ := Aside0.mk (below_step (by repeat (first | (with_reducible first | exact HB.out | apply below_alloc | apply pw_below_drewN | apply below_drew1) | exact HB.out)) hb); clear HB; have HB := n0_; clear n0_; (try clear hb); (try clear hb2); (try clear hk); (try clear hi)) | ((with_reducible refine gate_callee (f := 17) rfl ?_); refine goesL_ (some 92) rfl rfl Try.func17 (by kernel_rfl) rfl #[.slice A0 l0.length c0, .int .i64 a1] rfl (by (try simp only [List.map_toArray, List.map_cons, List.map_nil]); first | done | rfl | (simp only [List.length_drop, List.length_take]; rfl)) ?_; (with_reducible refine (posix_From.calls k _ _ l0 a1 t402 t403 _ ?side1 ?side2 A16.out).mono ?_); (case side1 => repeat (first | exact (Kd.C_below HR0.out HB.out) | (with_reducible refine Kd.C_alloc ?_ _) | (with_reducible refine Kd.C_drewN ?_ _) | (with_reducible refine Kd.C_drew ?_))); (case side2 => exact HC0.out); rintro e w40 ⟨rfl, hb⟩; refine ⟨_, rfl, ?_⟩; have n0_ := Aside0.mk (below_step (by repeat (first | (with_reducible first | exact HB.out | apply below_alloc | apply pw_below_drewN | apply below_drew1) | exact HB.out)) hb); clear HB; have HB := n0_; clear n0_; (try clear hb); (try clear hb2); (try clear hk); (try clear hi)) | ((with_reducible refine gate_callee (f := 18) rfl ?_); refine goesL_ (some 98) rfl rfl Try.func18 (by kernel_rfl) rfl #[.slice A0 l0.length c0, .int .i64 a1] rfl (by (try simp only [List.map_toArray, List.map_cons, List.map_nil]); first | done | rfl | (simp only [List.length_drop, List.length_take]; rfl)) ?_; (with_reducible refine (epactref23_From.calls k _ _ l0 a1 t404 t405 _ ?side1 ?side2 A17.out).mono ?_); (case side1 => repeat (first | exact (Kd.C_below HR0.out HB.out) | (with_reducible refine Kd.C_alloc ?_ _) | (with_reducible refine Kd.C_drewN ?_ _) | (with_reducible refine Kd.C_drew ?_))); (case side2 => exact HC0.out); rintro e w41 ⟨rfl, hb⟩; refine ⟨_, rfl, ?_⟩; have n0_ := Aside0.mk (below_step (by repeat (first | (with_reducible first | exact HB.out | apply below_alloc | apply pw_below_drewN | apply below_drew1) | exact HB.out)) hb); clear HB; have HB := n0_; clear n0_; (try clear hb); (try clear hb2); (try clear hk); (try clear hi)) | ((with_reducible refine gate_callee (f := 19) rfl ?_); refine goesL_ (some 104) rfl rfl Try.func19 (by kernel_rfl) rfl #[.slice A0 l0.length c0, .int .i64 a1] rfl (by (try simp only [List.map_toArray, List.map_cons, List.map_nil]); first | done | rfl | (simp only [List.length_drop, List.length_take]; rfl)) ?_; (with_reducible refine (posix_Twice.calls k _ _ l0 a1 t406 t407 _ ?side1 ?side2 A18.out).mono ?_); (case side1 => repeat (first | exact (Kd.C_below HR0.out HB.out) | (with_reducible refine Kd.C_alloc ?_ _) | (with_reducible refine Kd.C_drewN ?_ _) | (with_reducible refine Kd.C_drew ?_))); (case side2 => exact HC0.out); rintro e w42 ⟨rfl, hb⟩; refine ⟨_, rfl, ?_⟩; have n0_ := Aside0.mk (below_step (by repeat (first | (with_reducible first | exact HB.out | apply below_alloc | apply pw_below_drewN | apply below_drew1) | exact HB.out)) hb); clear HB; have HB := n0_; clear n0_; (try clear hb); (try clear hb2); (try clear hk); (try clear hi)) | ((with_reducible refine gate_callee (f := 20) rfl ?_); refine goesL_ (some 110) rfl rfl Try.func20 (by kernel_rfl) rfl #[.slice A0 l0.length c0, .int .i64 a1] rfl (by (try simp only [List.map_toArray, List.map_cons, List.map_nil]); first | done | rfl | (simp only [List.length_drop, List.length_take]; rfl)) ?_; (with_reducible refine (epactref23_Twice.calls k _ _ l0 a1 t408 t409 _ ?side1 ?side2 A19.out).mono ?_); (case side1 => repeat (first | exact (Kd.C_below HR0.out HB.out) | (with_reducible refine Kd.C_alloc ?_ _) | (with_reducible refine Kd.C_drewN ?_ _) | (with_reducible refine Kd.C_drew ?_))); (case side2 => exact HC0.out); rintro e w43 ⟨rfl, hb⟩; refine ⟨_, rfl, ?_⟩; have n0_ := Aside0.mk (below_step (by repeat (first | (with_reducible first | exact HB.out | apply below_alloc | apply pw_below_drewN | apply below_drew1) | exact HB.out)) hb); clear HB; have HB := n0_; clear n0_; (try clear hb); (try clear hb2); (try clear hk); (try clear hi)))
                              go_ret
                              exact ⟨by first | rfl | (simp [errW_none, errW_some] <;> rfl) | (simp [*, errW_none, errW_some] <;> rfl), by repeat (first | (with_reducible first | exact HB.out | apply below_alloc | apply pw_below_drewN | apply below_drew1) | exact HB.out)⟩
                            · rw [if_neg c32] at H
                              exact absurd H (by simp)
                          · rw [if_neg c31] at H
                            exact absurd H (by simp)
                        · rw [if_neg c30] at H
                          exact absurd H (by simp)
                      · rw [if_neg c29] at H
                        exact absurd H (by simp)
                    · rw [if_neg c28] at H
                      exact absurd H (by simp)
                  · rw [if_neg c27] at H
                    exact absurd H (by simp)
                · rw [if_neg c26] at H
                  exact absurd H (by simp)
              · rw [if_neg c25] at H
                exact absurd H (by simp)
            · rw [if_neg c24] at H
              exact absurd H (by simp)
          · rw [if_neg c23] at H
            exact absurd H (by simp)
        · rw [if_neg c22] at H
          exact absurd H (by simp)
      · rw [if_neg c21] at H
        exact absurd H (by simp)
    · replace c20 := Bool.eq_false_iff.mpr c20
      subst c20
      have H1 : (none) = some r := by rw [if_neg (show ¬ (false = true) by decide)] at H; exact H
      clear H
      have H := H1
      clear H1
      exact absurd H (by simp)

end Go.Proofs.Ytlfnkamhokfeaaa.PAll
