-- Written for this claim by wip/tools of this repo (after the kit's print; own contracts laid in).
import Derived.Test.YthecldgopjaogaaPAllx0
import Derived.Test.YthecldgopjaogaaPAllx8
namespace Go.Proofs.Ythecldgopjaogaa.PAll
open Go.RowKit Go.Proofs.YthecldgopjaogaaW.PrintWords Go.Proofs.YthecldgopjaogaaW.PrintLast Go.Proofs.YthecldgopjaogaaW.PrintMore
attribute [local go_sem] max2_int min2_int max_two min_two max_three min_three max_four min_four   -- for this text's walks alone
set_option linter.unusedVariables false
set_option linter.unusedSimpArgs false

/-! ### epactref22_Utc: function 11 -/
mutual
def epactref22_Utc.j0 : Nat → Int → Bool → List (S53) → Bool → Int → Option (Int × Int × Int)
  | 0, _, _, _, _, _ => none
  | k + 1, x1, x34, x331000, x331001, x331002 => if x34 = true then (some (0, 0, 10)) else (epactref22_Utc.l0 k x1 730 0 x331000 x331001 x331002)
def epactref22_Utc.l0 : Nat → Int → Int → Int → List (S53) → Bool → Int → Option (Int × Int × Int)
  | 0, _, _, _, _, _, _ => none
  | k + 1, x11, x12, x13, x331000, x331001, x331002 => if x13 < (x331000.length : Int) then (if 0 ≤ x13 then (if x11 < (wrap64 (86400 * (wrap64 (((rd_T53 x331000 x13).f0) - x12)))) then (if (wrap64 (x12 + (wrap64 (Int.tdiv x11 86400)))) > 2932896 then (some (0, 0, 9)) else (some (wrap64 (x12 + (wrap64 (Int.tdiv x11 86400))), Int.tmod x11 86400, 0))) else (if (wrap64 (x11 - (wrap64 (86400 * (wrap64 (((rd_T53 x331000 x13).f0) - x12)))))) < (wrap64 (86400 + ((rd_T53 x331000 x13).f1))) then (some ((rd_T53 x331000 x13).f0, wrap64 (x11 - (wrap64 (86400 * (wrap64 (((rd_T53 x331000 x13).f0) - x12))))), 0)) else (epactref22_Utc.l0 k (wrap64 ((wrap64 ((wrap64 (x11 - (wrap64 (86400 * (wrap64 (((rd_T53 x331000 x13).f0) - x12)))))) - 86400)) - ((rd_T53 x331000 x13).f1))) (wrap64 (((rd_T53 x331000 x13).f0) + 1)) (wrap64 (x13 + 1)) x331000 x331001 x331002))) else (none)) else (if (wrap64 (x12 + (wrap64 (Int.tdiv x11 86400)))) > 2932896 then (some (0, 0, 9)) else (some (wrap64 (x12 + (wrap64 (Int.tdiv x11 86400))), Int.tmod x11 86400, 0)))
end
def epactref22_Utc.f (k : Nat) (l0 : List (S45)) (a1 : Int) : Option (Int × Int × Int) := (epactref22_table.f k l0).bind fun bt324 => (if bt324.2.2.2 = true then (if a1 < 0 then (some (0, 0, 9)) else ((epactref22_End.f k l0).bind fun bt331 => (if bt331.2 = true then (epactref22_Utc.j0 k a1 (decide (a1 ≥ bt331.1)) bt324.1 bt324.2.1 bt324.2.2.1) else (epactref22_Utc.j0 k a1 false bt324.1 bt324.2.1 bt324.2.2.1)))) else (some (0, 0, 1)))
theorem epactref22_Utc.mono_l : ∀ k, (∀ y0 y1 y2 y3 y4, LeO (epactref22_Utc.j0 k y0 y1 y2 y3 y4) (epactref22_Utc.j0 (k + 1) y0 y1 y2 y3 y4)) ∧ (∀ y0 y1 y2 y3 y4 y5, LeO (epactref22_Utc.l0 k y0 y1 y2 y3 y4 y5) (epactref22_Utc.l0 (k + 1) y0 y1 y2 y3 y4 y5))
  | 0 => ⟨fun _ _ _ _ _ r h => by simp [epactref22_Utc.j0] at h, fun _ _ _ _ _ _ r h => by simp [epactref22_Utc.l0] at h⟩
  | k + 1 => by
    obtain ⟨ih0, ih1⟩ := epactref22_Utc.mono_l k
    refine ⟨?_, ?_⟩
    · intro y0 y1 y2 y3 y4
      unfold epactref22_Utc.j0
      repeat' first
      | (with_reducible exact ih0 _ _ _ _ _)
      | (with_reducible exact ih1 _ _ _ _ _ _)
      | (with_reducible exact epactref22_End.mono _ _)
      | (with_reducible exact epactref22_table.mono _ _)
      | (with_reducible exact LeO.refl _)
      | (with_reducible exact LeO.none _)
      | (with_reducible refine LeO.ite ?_ ?_)
      | (with_reducible refine LeO.bind ?_ (fun _ => ?_))
      | exact ih0 _ _ _ _ _
      | exact ih1 _ _ _ _ _ _
      | exact epactref22_End.mono _ _
      | exact epactref22_table.mono _ _
      | exact LeO.none _
      | refine LeO.ite ?_ ?_
      | refine LeO.bind ?_ (fun _ => ?_)
    · intro y0 y1 y2 y3 y4 y5
      unfold epactref22_Utc.l0
      repeat' first
      | (with_reducible exact ih0 _ _ _ _ _)
      | (with_reducible exact ih1 _ _ _ _ _ _)
      | (with_reducible exact epactref22_End.mono _ _)
      | (with_reducible exact epactref22_table.mono _ _)
      | (with_reducible exact LeO.refl _)
      | (with_reducible exact LeO.none _)
      | (with_reducible refine LeO.ite ?_ ?_)
      | (with_reducible refine LeO.bind ?_ (fun _ => ?_))
      | exact ih0 _ _ _ _ _
      | exact ih1 _ _ _ _ _ _
      | exact epactref22_End.mono _ _
      | exact epactref22_table.mono _ _
      | exact LeO.none _
      | refine LeO.ite ?_ ?_
      | refine LeO.bind ?_ (fun _ => ?_)
theorem epactref22_Utc.mono : ∀ a0 a1 k, LeO (epactref22_Utc.f k a0 a1) (epactref22_Utc.f (k + 1) a0 a1) := by
  intro a0 a1 k
  obtain ⟨ih0, ih1⟩ := epactref22_Utc.mono_l k
  unfold epactref22_Utc.f
  repeat' first
      | (with_reducible exact ih0 _ _ _ _ _)
      | (with_reducible exact ih1 _ _ _ _ _ _)
      | (with_reducible exact epactref22_End.mono _ _)
      | (with_reducible exact epactref22_table.mono _ _)
      | (with_reducible exact LeO.refl _)
      | (with_reducible exact LeO.none _)
      | (with_reducible refine LeO.ite ?_ ?_)
      | (with_reducible refine LeO.bind ?_ (fun _ => ?_))
      | exact ih0 _ _ _ _ _
      | exact ih1 _ _ _ _ _ _
      | exact epactref22_End.mono _ _
      | exact epactref22_table.mono _ _
      | exact LeO.none _
      | refine LeO.ite ?_ ?_
      | refine LeO.bind ?_ (fun _ => ?_)
set_option maxHeartbeats 8000000 in
set_option maxRecDepth 100000 in
theorem epactref22_Utc.calls (k : Nat) (A0 : Option Addr) (c0 : Nat) (l0 : List (S45)) (a1 : Int) (r1 : Int) (r2 : Int) (r3 : Int) (w : World) (hr0 : Kd.C k45 w A0 l0.length l0) (hc0 : l0.length ≤ c0) (h : epactref22_Utc.f k l0 a1 = some (r1, r2, r3)) :
    Calls Try.prog 11 #[.slice A0 l0.length c0, .int .i64 a1] w fun e w' => e = .returned (.tuple #[.int .i64 r1, .int .i64 r2, .int .i64 r3]) ∧ Below w.heap.size w w' := by
  have hu38 := Try.underlying38
  have HR0 := Aside0.mk hr0
  have HC0 := Aside0.mk hc0
  clear hr0 hc0
  have HB := Aside0.mk (Below.refl w.heap.size w)
  have H : ((epactref22_table.f k l0).bind fun bt324 => (if bt324.2.2.2 = true then (if a1 < 0 then (some (0, 0, 9)) else ((epactref22_End.f k l0).bind fun bt331 => (if bt331.2 = true then (epactref22_Utc.j0 k a1 (decide (a1 ≥ bt331.1)) bt324.1 bt324.2.1 bt324.2.2.1) else (epactref22_Utc.j0 k a1 false bt324.1 bt324.2.1 bt324.2.2.1)))) else (some (0, 0, 1)))) = some (r1, r2, r3) := h
  clear h
  replace H := Option.bind_eq_some_iff.mp H
  obtain ⟨⟨t324, t327, t328, t329⟩, A30, H⟩ := H
  replace H : (if t329 = true then (if a1 < 0 then (some (0, 0, 9)) else ((epactref22_End.f k l0).bind fun bt331 => (if bt331.2 = true then (epactref22_Utc.j0 k a1 (decide (a1 ≥ bt331.1)) t324 t327 t328) else (epactref22_Utc.j0 k a1 false t324 t327 t328)))) else (some (0, 0, 1))) = some (r1, r2, r3) := H
  have A3 := Aside0.mk A30
  clear A30
  by_cases c4 : t329 = true
  · subst c4
    have H1 : (if a1 < 0 then (some (0, 0, 9)) else ((epactref22_End.f k l0).bind fun bt331 => (if bt331.2 = true then (epactref22_Utc.j0 k a1 (decide (a1 ≥ bt331.1)) t324 t327 t328) else (epactref22_Utc.j0 k a1 false t324 t327 t328)))) = some (r1, r2, r3) := by rw [if_pos rfl] at H; exact H
    clear H
    have H := H1
    clear H1
    by_cases c5 : a1 < 0
    · rw [if_pos c5] at H
      have c5b0 : decide (a1 < 0) = true := decide_eq_true c5
      clear c5
      simp only [Option.some.injEq, Prod.mk.injEq] at H
      obtain ⟨rfl, rfl, rfl⟩ := H
      go_enter Try.func11, Try.ntmps11
      go_wp2_with (first | ((with_reducible refine gate_callee (f := 31) rfl ?_); refine goesL_ (some 17) rfl rfl Try.func31 (by kernel_rfl) rfl #[.slice A0 l0.length c0] rfl (by (try simp only [List.map_toArray, List.map_cons, List.map_nil]); first | done | rfl | (simp only [List.length_drop, List.length_take]; rfl)) ?_; (with_reducible refine (epactref22_table.calls k _ _ l0 t324 t327 t328 true _ ?side1 ?side2 A3.out).mono ?_); (case side1 => repeat (first | exact HR0.out | (with_reducible refine Kd.C_alloc ?_ _) | (with_reducible refine Kd.C_drewN ?_ _) | (with_reducible refine Kd.C_drew ?_))); (case side2 => exact HC0.out); rintro e w6 ⟨v325, rfl, ho0, hb⟩; refine ⟨_, rfl, ?_⟩; have n0_ := Aside0.mk (Kd.R_lower ho0 (below_size (by repeat (first | (with_reducible first | exact HB.out | apply below_alloc | apply pw_below_drewN | apply below_drew1) | exact HB.out)))); have n1_ := Aside0.mk (below_step (by repeat (first | (with_reducible first | exact HB.out | apply below_alloc | apply pw_below_drewN | apply below_drew1) | exact HB.out)) hb); clear HB; have HO326 := n0_; have HB := n1_; clear n0_ n1_; (try clear hb); (try clear hb2); (try clear hk); (try clear hi); (try clear ho0)) | ((with_reducible refine gate_dst (N := 7) rfl ?_); refine box_event ?hg (N := 7) ?hd (cs := #[.slice none 0 0, .bool false, .int .i64 0]) (t := 38) ?hr ?_; (case hd => rfl); (case hg => rfl); (case hr => first | (go_simp; done) | (go_simp; rfl)); intro gb330 hg w7 hbox hb; have n0_ := Aside0.mk (Kd.R_below (by (with_reducible repeat (first | apply Kd.R_alloc | apply Kd.R_drewN | apply Kd.R_drew)); exact HO326.out) hb); have n1_ := Aside0.mk (below_step (by repeat (first | (with_reducible first | exact HB.out | apply below_alloc | apply pw_below_drewN | apply below_drew1) | exact HB.out)) hb); have n2_ := Aside0.mk (hbox); have n3_ := Aside0.mk ((by rw [hg]; exact (below_size (by repeat (first | (with_reducible first | exact HB.out | apply below_alloc | apply pw_below_drewN | apply below_drew1) | exact HB.out))) : w.heap.size ≤ gb330)); have n4_ := Aside0.mk ((by rw [hg]; exact (below_size (by repeat (first | (with_reducible first | exact HB.out | apply below_alloc | apply pw_below_drewN | apply below_drew1) | exact HB.out))) : w.heap.size ≤ gb330)); clear HO326; clear HB; have HO326 := n0_; have HB := n1_; have BK330 := n2_; have GW330 := n3_; have GE330 := n4_; clear n0_ n1_ n2_ n3_ n4_; clear hb hbox hg; obtain ⟨Ao8, co8, eo8⟩ := Kd.R_slice HO326.out; subst eo8; have hcz9_0 : w7.cell? ⟨gb330, 0, none⟩ = some (.slice none 0 0) := (blk_cell BK330.out 0).trans rfl; have hcz9_1 : w7.cell? ⟨gb330, 1, none⟩ = some (.bool false) := (blk_cell BK330.out 1).trans rfl; have hcz9_2 : w7.cell? ⟨gb330, 2, none⟩ = some (.int .i64 0) := (blk_cell BK330.out 2).trans rfl; have hfz9_0 := blk_frozen BK330.out 0; have hfz9_1 := blk_frozen BK330.out 1; have hfz9_2 := blk_frozen BK330.out 2))
      go_ret3
      exact ⟨by first | rfl | (simp [errW_none, errW_some] <;> rfl) | (simp [*, errW_none, errW_some] <;> rfl), by repeat (first | (with_reducible first | exact HB.out | apply below_alloc | apply pw_below_drewN | apply below_drew1 | refine below_set ?_ GE330.out) | exact HB.out)⟩
    · rw [if_neg c5] at H
      have c5b0 : decide (a1 < 0) = false := decide_eq_false c5
      clear c5
      replace H := Option.bind_eq_some_iff.mp H
      obtain ⟨⟨t331, t332⟩, A100, H⟩ := H
      replace H : (if t332 = true then (epactref22_Utc.j0 k a1 (decide (a1 ≥ t331)) t324 t327 t328) else (epactref22_Utc.j0 k a1 false t324 t327 t328)) = some (r1, r2, r3) := H
      have A10 := Aside0.mk A100
      clear A100
      have HC11 := Aside0.mk H
      clear H
      go_enter Try.func11, Try.ntmps11
      go_upto_region 7 with (first | ((with_reducible refine gate_callee (f := 31) rfl ?_); refine goesL_ (some 17) rfl rfl Try.func31 (by kernel_rfl) rfl #[.slice A0 l0.length c0] rfl (by (try simp only [List.map_toArray, List.map_cons, List.map_nil]); first | done | rfl | (simp only [List.length_drop, List.length_take]; rfl)) ?_; (with_reducible refine (epactref22_table.calls k _ _ l0 t324 t327 t328 true _ ?side1 ?side2 A3.out).mono ?_); (case side1 => repeat (first | exact HR0.out | (with_reducible refine Kd.C_alloc ?_ _) | (with_reducible refine Kd.C_drewN ?_ _) | (with_reducible refine Kd.C_drew ?_))); (case side2 => exact HC0.out); rintro e w12 ⟨v325, rfl, ho0, hb⟩; refine ⟨_, rfl, ?_⟩; have n0_ := Aside0.mk (Kd.R_lower ho0 (below_size (by repeat (first | (with_reducible first | exact HB.out | apply below_alloc | apply pw_below_drewN | apply below_drew1) | exact HB.out)))); have n1_ := Aside0.mk (below_step (by repeat (first | (with_reducible first | exact HB.out | apply below_alloc | apply pw_below_drewN | apply below_drew1) | exact HB.out)) hb); clear HB; have HO326 := n0_; have HB := n1_; clear n0_ n1_; (try clear hb); (try clear hb2); (try clear hk); (try clear hi); (try clear ho0)) | ((with_reducible refine gate_dst (N := 7) rfl ?_); refine box_event ?hg (N := 7) ?hd (cs := #[.slice none 0 0, .bool false, .int .i64 0]) (t := 38) ?hr ?_; (case hd => rfl); (case hg => rfl); (case hr => first | (go_simp; done) | (go_simp; rfl)); intro gb330 hg w13 hbox hb; have n0_ := Aside0.mk (Kd.R_below (by (with_reducible repeat (first | apply Kd.R_alloc | apply Kd.R_drewN | apply Kd.R_drew)); exact HO326.out) hb); have n1_ := Aside0.mk (below_step (by repeat (first | (with_reducible first | exact HB.out | apply below_alloc | apply pw_below_drewN | apply below_drew1) | exact HB.out)) hb); have n2_ := Aside0.mk (hbox); have n3_ := Aside0.mk ((by rw [hg]; exact (below_size (by repeat (first | (with_reducible first | exact HB.out | apply below_alloc | apply pw_below_drewN | apply below_drew1) | exact HB.out))) : w.heap.size ≤ gb330)); have n4_ := Aside0.mk ((by rw [hg]; exact (below_size (by repeat (first | (with_reducible first | exact HB.out | apply below_alloc | apply pw_below_drewN | apply below_drew1) | exact HB.out))) : w.heap.size ≤ gb330)); clear HO326; clear HB; have HO326 := n0_; have HB := n1_; have BK330 := n2_; have GW330 := n3_; have GE330 := n4_; clear n0_ n1_ n2_ n3_ n4_; clear hb hbox hg; obtain ⟨Ao14, co14, eo14⟩ := Kd.R_slice HO326.out; subst eo14; have hcz15_0 : w13.cell? ⟨gb330, 0, none⟩ = some (.slice none 0 0) := (blk_cell BK330.out 0).trans rfl; have hcz15_1 : w13.cell? ⟨gb330, 1, none⟩ = some (.bool false) := (blk_cell BK330.out 1).trans rfl; have hcz15_2 : w13.cell? ⟨gb330, 2, none⟩ = some (.int .i64 0) := (blk_cell BK330.out 2).trans rfl; have hfz15_0 := blk_frozen BK330.out 0; have hfz15_1 := blk_frozen BK330.out 1; have hfz15_2 := blk_frozen BK330.out 2) | ((with_reducible refine gate_callee (f := 17) rfl ?_); refine goesL_ (some 26) rfl rfl Try.func17 (by kernel_rfl) rfl #[.slice A0 l0.length c0] rfl (by (try simp only [List.map_toArray, List.map_cons, List.map_nil]); first | done | rfl | (simp only [List.length_drop, List.length_take]; rfl)) ?_; (with_reducible refine (epactref22_End.calls k _ _ l0 t331 t332 _ ?side1 ?side2 A10.out).mono ?_); (case side1 => exact Kd.C_below HR0.out (by repeat (first | (with_reducible first | exact HB.out | apply below_alloc | apply pw_below_drewN | apply below_drew1 | refine below_set ?_ GE330.out) | exact HB.out))); (case side2 => exact HC0.out); rintro e w16 ⟨rfl, hb⟩; refine ⟨_, rfl, ?_⟩; have n0_ := Aside0.mk (Kd.R_below (by (with_reducible repeat (first | apply Kd.R_alloc | apply Kd.R_drewN | apply Kd.R_drew)); exact (Kd.R_mono (Kd.R_far (p := ⟨gb330, 2, none⟩) (Kd.R_far (p := ⟨gb330, 1, none⟩) (Kd.R_far (p := ⟨gb330, 0, none⟩) (Kd.R_types HO326.out BK330.out (by decide)) (fun _ hk => hk.2) (.slice Ao14 t324.length co14)) (fun _ hk => hk.2) (.bool t327)) (fun _ hk => hk.2) (.int .i64 t328)) (fun _ h_ => h_.1))) hb); have n1_ := Aside0.mk (blk_below (g := gb330) (o := .cells #[.slice Ao14 t324.length co14, .bool t327, .int .i64 t328] 38 (0, 0)) (by (with_reducible repeat (first | refine blk_drewN ?_ _ | refine blk_drew ?_ | refine blk_alloc ?_ _)); refine blk_put (cs := #[.slice Ao14 t324.length co14, .bool t327, .int .i64 0]) ?_ 2 _ rfl; (with_reducible repeat (first | refine blk_drewN ?_ _ | refine blk_drew ?_ | refine blk_alloc ?_ _)); refine blk_put (cs := #[.slice Ao14 t324.length co14, .bool false, .int .i64 0]) ?_ 1 _ rfl; (with_reducible repeat (first | refine blk_drewN ?_ _ | refine blk_drew ?_ | refine blk_alloc ?_ _)); refine blk_put (cs := #[.slice none 0 0, .bool false, .int .i64 0]) ?_ 0 _ rfl; (with_reducible repeat (first | refine blk_drewN ?_ _ | refine blk_drew ?_ | refine blk_alloc ?_ _)); exact BK330.out) hb); have n2_ := Aside0.mk (below_step (by repeat (first | (with_reducible first | exact HB.out | apply below_alloc | apply pw_below_drewN | apply below_drew1 | refine below_set ?_ GE330.out) | exact HB.out)) hb); clear HO326; clear BK330; clear HB; have HO326 := n0_; have BK330 := n1_; have HB := n2_; clear n0_ n1_ n2_; (try clear hb); (try clear hb2); (try clear hk); (try clear hi)))
      (try simp only [Act.put, List.setIfInBounds_toArray, List.set_cons_zero, List.set_cons_succ])
      go_cut [34] (fun v34 wc => ∃ (kq : Nat) (x34_10 : Bool), v34 = .bool x34_10 ∧ Aside0 (epactref22_Utc.j0 kq a1 x34_10 t324 t327 t328 = some (r1, r2, r3)) ∧ Aside0 (kq ≤ k) ∧ Aside0 (Kd.R k53 53 wc w.heap.size (fun _ => True) (.slice Ao14 t324.length co14) t324) ∧ Aside0 (wc.heap[gb330]? = some (.cells #[(.slice Ao14 t324.length co14), .bool t327, .int .i64 t328] 38 (0, 0))) ∧ Aside0 (Below w.heap.size w wc))
      case first =>
        have H := HC11.out
        clear HC11
        by_cases c17 : t332 = true
        · subst c17
          have H1 : (epactref22_Utc.j0 k a1 (decide (a1 ≥ t331)) t324 t327 t328) = some (r1, r2, r3) := by rw [if_pos rfl] at H; exact H
          clear H
          have H := H1
          clear H1
          have H' := Aside0.mk H
          clear H
          go_wp2
          go_meet
          case rel => exact ⟨_, (decide (a1 ≥ t331)), (by first | rfl | (simp; done) | (simp [*]; done)), H', ⟨by first | omega | exact Nat.le_refl _⟩, ⟨by (with_reducible repeat (first | apply Kd.R_alloc | apply Kd.R_drewN | apply Kd.R_drew)); exact HO326.out⟩, ⟨by (with_reducible repeat (first | refine blk_drewN ?_ _ | refine blk_drew ?_ | refine blk_alloc ?_ _)); exact BK330.out⟩, ⟨by repeat (first | (with_reducible first | exact HB.out | apply below_alloc | apply pw_below_drewN | apply below_drew1 | refine below_set ?_ GE330.out) | exact HB.out)⟩⟩
        · replace c17 := Bool.eq_false_iff.mpr c17
          subst c17
          have H1 : (epactref22_Utc.j0 k a1 false t324 t327 t328) = some (r1, r2, r3) := by rw [if_neg (show ¬ (false = true) by decide)] at H; exact H
          clear H
          have H := H1
          clear H1
          have H' := Aside0.mk H
          clear H
          go_wp2
          go_meet
          case rel => exact ⟨_, (false), (by first | rfl | (simp; done) | (simp [*]; done)), H', ⟨by first | omega | exact Nat.le_refl _⟩, ⟨by (with_reducible repeat (first | apply Kd.R_alloc | apply Kd.R_drewN | apply Kd.R_drew)); exact HO326.out⟩, ⟨by (with_reducible repeat (first | refine blk_drewN ?_ _ | refine blk_drew ?_ | refine blk_alloc ?_ _)); exact BK330.out⟩, ⟨by repeat (first | (with_reducible first | exact HB.out | apply below_alloc | apply pw_below_drewN | apply below_drew1 | refine below_set ?_ GE330.out) | exact HB.out)⟩⟩
      case rest =>
        clear HC11
        try clear c1
        try clear p2
        try clear c3
        try clear c4
        try clear c5
        try clear c5b0
        try clear c11
        try clear c17
        try clear hcz15_0
        try clear hcz15_1
        try clear hcz15_2
        try clear hcz9_0
        try clear hcz9_1
        try clear hcz9_2
        try clear hfz15_0
        try clear hfz15_1
        try clear hfz15_2
        try clear hfz9_0
        try clear hfz9_1
        try clear hfz9_2
        obtain ⟨kq, x34_10, rfl, HA, HJ10, HO_331000, BK330, HB⟩ := hcut
        cases kq with
        | zero => exact absurd HA.out (by simp [epactref22_Utc.j0])
        | succ kj10 =>
          have H := HA.out
          clear HA
          simp only [epactref22_Utc.j0] at H
          by_cases c18 : x34_10 = true
          · subst c18
            have H1 : (some (0, 0, 10)) = some (r1, r2, r3) := by rw [if_pos rfl] at H; exact H
            clear H
            have H := H1
            clear H1
            simp only [Option.some.injEq, Prod.mk.injEq] at H
            obtain ⟨rfl, rfl, rfl⟩ := H
            go_wp2
            go_ret3
            exact ⟨by first | rfl | (simp [errW_none, errW_some] <;> rfl) | (simp [*, errW_none, errW_some] <;> rfl), by repeat (first | (with_reducible first | exact HB.out | apply below_alloc | apply pw_below_drewN | apply below_drew1 | refine below_set ?_ GE330.out) | exact HB.out)⟩
          · replace c18 := Bool.eq_false_iff.mpr c18
            subst c18
            have H1 : (epactref22_Utc.l0 kj10 a1 730 0 t324 t327 t328) = some (r1, r2, r3) := by rw [if_neg (show ¬ (false = true) by decide)] at H; exact H
            clear H
            have H := H1
            clear H1
            have H' := Aside0.mk H
            clear H
            go_wp2
            go_loopg [11, 12, 13] kj10 (fun kq v11 v12 v13 w' => ∃ (x11_2 : Int) (x12_2 : Int) (x13_2 : Int), v11 = .int .i64 x11_2 ∧ v12 = .int .i64 x12_2 ∧ v13 = .int .i64 x13_2 ∧ Aside0 (epactref22_Utc.l0 kq x11_2 x12_2 x13_2 t324 t327 t328 = some (r1, r2, r3)) ∧ Aside0 (kq ≤ kj10) ∧ Aside0 (Kd.R k53 53 w' w.heap.size (fun _ => True) (.slice Ao14 t324.length co14) t324) ∧ Aside0 (w'.heap[gb330]? = some (.cells #[(.slice Ao14 t324.length co14), .bool t327, .int .i64 t328] 38 (0, 0))) ∧ Aside0 (Below w.heap.size w w'))
            case atStart => exact ⟨(a1), (730), (0), (by first | rfl | (simp; done) | (simp [*]; done)), (by first | rfl | (simp; done) | (simp [*]; done)), (by first | rfl | (simp; done) | (simp [*]; done)), H', ⟨Nat.le_refl _⟩, ⟨by (with_reducible repeat (first | apply Kd.R_alloc | apply Kd.R_drewN | apply Kd.R_drew)); exact HO_331000.out⟩, ⟨by (with_reducible repeat (first | refine blk_drewN ?_ _ | refine blk_drew ?_ | refine blk_alloc ?_ _)); exact BK330.out⟩, ⟨by repeat (first | (with_reducible first | exact HB.out | apply below_alloc | apply pw_below_drewN | apply below_drew1 | refine below_set ?_ GE330.out) | exact HB.out)⟩⟩
            case round =>
              clear H'
              try clear c1
              try clear p2
              try clear c3
              try clear c4
              try clear c5
              try clear c5b0
              try clear c11
              try clear c17
              try clear c18
              try clear hcz15_0
              try clear hcz15_1
              try clear hcz15_2
              try clear hcz9_0
              try clear hcz9_1
              try clear hcz9_2
              try clear hfz15_0
              try clear hfz15_1
              try clear hfz15_2
              try clear hfz9_0
              try clear hfz9_1
              try clear hfz9_2
              try clear p2
              obtain ⟨x11_2, x12_2, x13_2, rfl, rfl, rfl, HA, HK2, HO_331000, BK330, HB⟩ := hrel
              cases gk with
              | zero => exact absurd HA.out (by simp [epactref22_Utc.l0])
              | succ k2 =>
                have H := HA.out
                clear HA
                simp only [epactref22_Utc.l0] at H
                by_cases c19 : x13_2 < (t324.length : Int)
                · rw [if_pos c19] at H
                  have c19b0 : decide (x13_2 < (t324.length : Int)) = true := decide_eq_true c19
                  clear c19
                  by_cases c20 : 0 ≤ x13_2
                  · rw [if_pos c20] at H
                    have c20b0 : decide (0 ≤ x13_2) = true := decide_eq_true c20
                    clear c20
                    by_cases c21 : x11_2 < (wrap64 (86400 * (wrap64 (((rd_T53 t324 x13_2).f0) - x12_2))))
                    · rw [if_pos c21] at H
                      have c21b0 : decide (x11_2 < (wrap64 (86400 * (wrap64 (((rd_T53 t324 x13_2).f0) - x12_2))))) = true := decide_eq_true c21
                      clear c21
                      by_cases c22 : (wrap64 (x12_2 + (wrap64 (Int.tdiv x11_2 86400)))) > 2932896
                      · rw [if_pos c22] at H
                        have c22b0 : decide (2932896 < (wrap64 (x12_2 + (wrap64 (Int.tdiv x11_2 86400))))) = true := decide_eq_true c22
                        clear c22
                        simp only [Option.some.injEq, Prod.mk.injEq] at H
                        obtain ⟨rfl, rfl, rfl⟩ := H
                        have hcz23_0 : wr.cell? ⟨gb330, 0, none⟩ = some (.slice Ao14 t324.length co14) := (blk_cell BK330.out 0).trans rfl
                        have hcz23_1 : wr.cell? ⟨gb330, 1, none⟩ = some (.bool t327) := (blk_cell BK330.out 1).trans rfl
                        have hcz23_2 : wr.cell? ⟨gb330, 2, none⟩ = some (.int .i64 t328) := (blk_cell BK330.out 2).trans rfl
                        have hfz23_0 := blk_frozen BK330.out 0
                        have hfz23_1 := blk_frozen BK330.out 1
                        have hfz23_2 := blk_frozen BK330.out 2
                        have p333 : 0 ≤ (x13_2 : Int) := of_decide_eq_true (by first | (with_reducible assumption) | assumption)
                        have q333 : x13_2 < (t324.length : Int) := of_decide_eq_true (by first | (with_reducible assumption) | assumption)
                        obtain ⟨ad333, e333, hx333_0, hx333_1, hx333_2⟩ := at_T53 (Kd.R_reads' HO_331000.out).2.2 x13_2 p333 q333
                        cases e333
                        replace p333 := eq_true p333
                        replace q333 := eq_true q333
                        go_wp2
                        go_ret3
                        exact ⟨by first | rfl | (simp [errW_none, errW_some] <;> rfl) | (simp [*, errW_none, errW_some] <;> rfl), by repeat (first | (with_reducible first | exact HB.out | apply below_alloc | apply pw_below_drewN | apply below_drew1 | refine below_set ?_ GE330.out) | exact HB.out)⟩
                      · rw [if_neg c22] at H
                        have c22b0 : decide (2932896 < (wrap64 (x12_2 + (wrap64 (Int.tdiv x11_2 86400))))) = false := decide_eq_false c22
                        clear c22
                        simp only [Option.some.injEq, Prod.mk.injEq] at H
                        obtain ⟨rfl, rfl, rfl⟩ := H
                        have hcz24_0 : wr.cell? ⟨gb330, 0, none⟩ = some (.slice Ao14 t324.length co14) := (blk_cell BK330.out 0).trans rfl
                        have hcz24_1 : wr.cell? ⟨gb330, 1, none⟩ = some (.bool t327) := (blk_cell BK330.out 1).trans rfl
                        have hcz24_2 : wr.cell? ⟨gb330, 2, none⟩ = some (.int .i64 t328) := (blk_cell BK330.out 2).trans rfl
                        have hfz24_0 := blk_frozen BK330.out 0
                        have hfz24_1 := blk_frozen BK330.out 1
                        have hfz24_2 := blk_frozen BK330.out 2
                        have p333 : 0 ≤ (x13_2 : Int) := of_decide_eq_true (by first | (with_reducible assumption) | assumption)
                        have q333 : x13_2 < (t324.length : Int) := of_decide_eq_true (by first | (with_reducible assumption) | assumption)
                        obtain ⟨ad333, e333, hx333_0, hx333_1, hx333_2⟩ := at_T53 (Kd.R_reads' HO_331000.out).2.2 x13_2 p333 q333
                        cases e333
                        replace p333 := eq_true p333
                        replace q333 := eq_true q333
                        go_wp2
                        go_ret3
                        exact ⟨by first | rfl | (simp [errW_none, errW_some] <;> rfl) | (simp [*, errW_none, errW_some] <;> rfl), by repeat (first | (with_reducible first | exact HB.out | apply below_alloc | apply pw_below_drewN | apply below_drew1 | refine below_set ?_ GE330.out) | exact HB.out)⟩
                    · rw [if_neg c21] at H
                      have c21b0 : decide (x11_2 < (wrap64 (86400 * (wrap64 (((rd_T53 t324 x13_2).f0) - x12_2))))) = false := decide_eq_false c21
                      clear c21
                      by_cases c25 : (wrap64 (x11_2 - (wrap64 (86400 * (wrap64 (((rd_T53 t324 x13_2).f0) - x12_2)))))) < (wrap64 (86400 + ((rd_T53 t324 x13_2).f1)))
                      · rw [if_pos c25] at H
                        have c25b0 : decide ((wrap64 (x11_2 - (wrap64 (86400 * (wrap64 (((rd_T53 t324 x13_2).f0) - x12_2)))))) < (wrap64 (86400 + ((rd_T53 t324 x13_2).f1)))) = true := decide_eq_true c25
                        clear c25
                        simp only [Option.some.injEq, Prod.mk.injEq] at H
                        obtain ⟨rfl, rfl, rfl⟩ := H
                        have hcz26_0 : wr.cell? ⟨gb330, 0, none⟩ = some (.slice Ao14 t324.length co14) := (blk_cell BK330.out 0).trans rfl
                        have hcz26_1 : wr.cell? ⟨gb330, 1, none⟩ = some (.bool t327) := (blk_cell BK330.out 1).trans rfl
                        have hcz26_2 : wr.cell? ⟨gb330, 2, none⟩ = some (.int .i64 t328) := (blk_cell BK330.out 2).trans rfl
                        have hfz26_0 := blk_frozen BK330.out 0
                        have hfz26_1 := blk_frozen BK330.out 1
                        have hfz26_2 := blk_frozen BK330.out 2
                        have p333 : 0 ≤ (x13_2 : Int) := of_decide_eq_true (by first | (with_reducible assumption) | assumption)
                        have q333 : x13_2 < (t324.length : Int) := of_decide_eq_true (by first | (with_reducible assumption) | assumption)
                        obtain ⟨ad333, e333, hx333_0, hx333_1, hx333_2⟩ := at_T53 (Kd.R_reads' HO_331000.out).2.2 x13_2 p333 q333
                        cases e333
                        replace p333 := eq_true p333
                        replace q333 := eq_true q333
                        have p334 : 0 ≤ (x13_2 : Int) := of_decide_eq_true (by first | (with_reducible assumption) | assumption)
                        have q334 : x13_2 < (t324.length : Int) := of_decide_eq_true (by first | (with_reducible assumption) | assumption)
                        obtain ⟨ad334, e334, hx334_0, hx334_1, hx334_2⟩ := at_T53 (Kd.R_reads' HO_331000.out).2.2 x13_2 p334 q334
                        obtain rfl : ad333 = ad334 := (by injection e334)
                        replace p334 := eq_true p334
                        replace q334 := eq_true q334
                        have p335 : 0 ≤ (x13_2 : Int) := of_decide_eq_true (by first | (with_reducible assumption) | assumption)
                        have q335 : x13_2 < (t324.length : Int) := of_decide_eq_true (by first | (with_reducible assumption) | assumption)
                        obtain ⟨ad335, e335, hx335_0, hx335_1, hx335_2⟩ := at_T53 (Kd.R_reads' HO_331000.out).2.2 x13_2 p335 q335
                        obtain rfl : ad333 = ad335 := (by injection e335)
                        replace p335 := eq_true p335
                        replace q335 := eq_true q335
                        go_wp2
                        go_ret3
                        exact ⟨by first | rfl | (simp [errW_none, errW_some] <;> rfl) | (simp [*, errW_none, errW_some] <;> rfl), by repeat (first | (with_reducible first | exact HB.out | apply below_alloc | apply pw_below_drewN | apply below_drew1 | refine below_set ?_ GE330.out) | exact HB.out)⟩
                      · rw [if_neg c25] at H
                        have c25b0 : decide ((wrap64 (x11_2 - (wrap64 (86400 * (wrap64 (((rd_T53 t324 x13_2).f0) - x12_2)))))) < (wrap64 (86400 + ((rd_T53 t324 x13_2).f1)))) = false := decide_eq_false c25
                        clear c25
                        have H' := Aside0.mk H
                        clear H
                        have hcz27_0 : wr.cell? ⟨gb330, 0, none⟩ = some (.slice Ao14 t324.length co14) := (blk_cell BK330.out 0).trans rfl
                        have hcz27_1 : wr.cell? ⟨gb330, 1, none⟩ = some (.bool t327) := (blk_cell BK330.out 1).trans rfl
                        have hcz27_2 : wr.cell? ⟨gb330, 2, none⟩ = some (.int .i64 t328) := (blk_cell BK330.out 2).trans rfl
                        have hfz27_0 := blk_frozen BK330.out 0
                        have hfz27_1 := blk_frozen BK330.out 1
                        have hfz27_2 := blk_frozen BK330.out 2
                        have p333 : 0 ≤ (x13_2 : Int) := of_decide_eq_true (by first | (with_reducible assumption) | assumption)
                        have q333 : x13_2 < (t324.length : Int) := of_decide_eq_true (by first | (with_reducible assumption) | assumption)
                        obtain ⟨ad333, e333, hx333_0, hx333_1, hx333_2⟩ := at_T53 (Kd.R_reads' HO_331000.out).2.2 x13_2 p333 q333
                        cases e333
                        replace p333 := eq_true p333
                        replace q333 := eq_true q333
                        have p334 : 0 ≤ (x13_2 : Int) := of_decide_eq_true (by first | (with_reducible assumption) | assumption)
                        have q334 : x13_2 < (t324.length : Int) := of_decide_eq_true (by first | (with_reducible assumption) | assumption)
                        obtain ⟨ad334, e334, hx334_0, hx334_1, hx334_2⟩ := at_T53 (Kd.R_reads' HO_331000.out).2.2 x13_2 p334 q334
                        obtain rfl : ad333 = ad334 := (by injection e334)
                        replace p334 := eq_true p334
                        replace q334 := eq_true q334
                        have p335 : 0 ≤ (x13_2 : Int) := of_decide_eq_true (by first | (with_reducible assumption) | assumption)
                        have q335 : x13_2 < (t324.length : Int) := of_decide_eq_true (by first | (with_reducible assumption) | assumption)
                        obtain ⟨ad335, e335, hx335_0, hx335_1, hx335_2⟩ := at_T53 (Kd.R_reads' HO_331000.out).2.2 x13_2 p335 q335
                        obtain rfl : ad333 = ad335 := (by injection e335)
                        replace p335 := eq_true p335
                        replace q335 := eq_true q335
                        have p336 : 0 ≤ (x13_2 : Int) := of_decide_eq_true (by first | (with_reducible assumption) | assumption)
                        have q336 : x13_2 < (t324.length : Int) := of_decide_eq_true (by first | (with_reducible assumption) | assumption)
                        obtain ⟨ad336, e336, hx336_0, hx336_1, hx336_2⟩ := at_T53 (Kd.R_reads' HO_331000.out).2.2 x13_2 p336 q336
                        obtain rfl : ad333 = ad336 := (by injection e336)
                        replace p336 := eq_true p336
                        replace q336 := eq_true q336
                        go_wp2
                        go_roundg k2
                        case measure => have := HJ10.out; have := HK2.out; omega
                        case rel => exact ⟨(wrap64 ((wrap64 ((wrap64 (x11_2 - (wrap64 (86400 * (wrap64 (((rd_T53 t324 x13_2).f0) - x12_2)))))) - 86400)) - ((rd_T53 t324 x13_2).f1))), (wrap64 (((rd_T53 t324 x13_2).f0) + 1)), (wrap64 (x13_2 + 1)), (by first | rfl | (simp; done) | (simp [*]; done)), (by first | rfl | (simp; done) | (simp [*]; done)), (by first | rfl | (simp; done) | (simp [*]; done)), H', ⟨by have := HJ10.out; have := HK2.out; omega⟩, ⟨by (with_reducible repeat (first | apply Kd.R_alloc | apply Kd.R_drewN | apply Kd.R_drew)); exact HO_331000.out⟩, ⟨by (with_reducible repeat (first | refine blk_drewN ?_ _ | refine blk_drew ?_ | refine blk_alloc ?_ _)); exact BK330.out⟩, ⟨by repeat (first | (with_reducible first | exact HB.out | apply below_alloc | apply pw_below_drewN | apply below_drew1 | refine below_set ?_ GE330.out) | exact HB.out)⟩⟩
                  · rw [if_neg c20] at H
                    exact absurd H (by simp)
                · rw [if_neg c19] at H
                  have c19b0 : decide (x13_2 < (t324.length : Int)) = false := decide_eq_false c19
                  clear c19
                  by_cases c28 : (wrap64 (x12_2 + (wrap64 (Int.tdiv x11_2 86400)))) > 2932896
                  · rw [if_pos c28] at H
                    have c28b0 : decide (2932896 < (wrap64 (x12_2 + (wrap64 (Int.tdiv x11_2 86400))))) = true := decide_eq_true c28
                    clear c28
                    simp only [Option.some.injEq, Prod.mk.injEq] at H
                    obtain ⟨rfl, rfl, rfl⟩ := H
                    have hcz29_0 : wr.cell? ⟨gb330, 0, none⟩ = some (.slice Ao14 t324.length co14) := (blk_cell BK330.out 0).trans rfl
                    have hcz29_1 : wr.cell? ⟨gb330, 1, none⟩ = some (.bool t327) := (blk_cell BK330.out 1).trans rfl
                    have hcz29_2 : wr.cell? ⟨gb330, 2, none⟩ = some (.int .i64 t328) := (blk_cell BK330.out 2).trans rfl
                    have hfz29_0 := blk_frozen BK330.out 0
                    have hfz29_1 := blk_frozen BK330.out 1
                    have hfz29_2 := blk_frozen BK330.out 2
                    go_wp2
                    go_ret3
                    exact ⟨by first | rfl | (simp [errW_none, errW_some] <;> rfl) | (simp [*, errW_none, errW_some] <;> rfl), by repeat (first | (with_reducible first | exact HB.out | apply below_alloc | apply pw_below_drewN | apply below_drew1 | refine below_set ?_ GE330.out) | exact HB.out)⟩
                  · rw [if_neg c28] at H
                    have c28b0 : decide (2932896 < (wrap64 (x12_2 + (wrap64 (Int.tdiv x11_2 86400))))) = false := decide_eq_false c28
                    clear c28
                    simp only [Option.some.injEq, Prod.mk.injEq] at H
                    obtain ⟨rfl, rfl, rfl⟩ := H
                    have hcz30_0 : wr.cell? ⟨gb330, 0, none⟩ = some (.slice Ao14 t324.length co14) := (blk_cell BK330.out 0).trans rfl
                    have hcz30_1 : wr.cell? ⟨gb330, 1, none⟩ = some (.bool t327) := (blk_cell BK330.out 1).trans rfl
                    have hcz30_2 : wr.cell? ⟨gb330, 2, none⟩ = some (.int .i64 t328) := (blk_cell BK330.out 2).trans rfl
                    have hfz30_0 := blk_frozen BK330.out 0
                    have hfz30_1 := blk_frozen BK330.out 1
                    have hfz30_2 := blk_frozen BK330.out 2
                    go_wp2
                    go_ret3
                    exact ⟨by first | rfl | (simp [errW_none, errW_some] <;> rfl) | (simp [*, errW_none, errW_some] <;> rfl), by repeat (first | (with_reducible first | exact HB.out | apply below_alloc | apply pw_below_drewN | apply below_drew1 | refine below_set ?_ GE330.out) | exact HB.out)⟩
  · replace c4 := Bool.eq_false_iff.mpr c4
    subst c4
    have H1 : (some (0, 0, 1)) = some (r1, r2, r3) := by rw [if_neg (show ¬ (false = true) by decide)] at H; exact H
    clear H
    have H := H1
    clear H1
    simp only [Option.some.injEq, Prod.mk.injEq] at H
    obtain ⟨rfl, rfl, rfl⟩ := H
    go_enter Try.func11, Try.ntmps11
    go_wp2_with (first | ((with_reducible refine gate_callee (f := 31) rfl ?_); refine goesL_ (some 17) rfl rfl Try.func31 (by kernel_rfl) rfl #[.slice A0 l0.length c0] rfl (by (try simp only [List.map_toArray, List.map_cons, List.map_nil]); first | done | rfl | (simp only [List.length_drop, List.length_take]; rfl)) ?_; (with_reducible refine (epactref22_table.calls k _ _ l0 t324 t327 t328 false _ ?side1 ?side2 A3.out).mono ?_); (case side1 => repeat (first | exact HR0.out | (with_reducible refine Kd.C_alloc ?_ _) | (with_reducible refine Kd.C_drewN ?_ _) | (with_reducible refine Kd.C_drew ?_))); (case side2 => exact HC0.out); rintro e w31 ⟨v325, rfl, ho0, hb⟩; refine ⟨_, rfl, ?_⟩; have n0_ := Aside0.mk (Kd.R_lower ho0 (below_size (by repeat (first | (with_reducible first | exact HB.out | apply below_alloc | apply pw_below_drewN | apply below_drew1) | exact HB.out)))); have n1_ := Aside0.mk (below_step (by repeat (first | (with_reducible first | exact HB.out | apply below_alloc | apply pw_below_drewN | apply below_drew1) | exact HB.out)) hb); clear HB; have HO326 := n0_; have HB := n1_; clear n0_ n1_; (try clear hb); (try clear hb2); (try clear hk); (try clear hi); (try clear ho0)) | ((with_reducible refine gate_dst (N := 7) rfl ?_); refine box_event ?hg (N := 7) ?hd (cs := #[.slice none 0 0, .bool false, .int .i64 0]) (t := 38) ?hr ?_; (case hd => rfl); (case hg => rfl); (case hr => first | (go_simp; done) | (go_simp; rfl)); intro gb330 hg w32 hbox hb; have n0_ := Aside0.mk (Kd.R_below (by (with_reducible repeat (first | apply Kd.R_alloc | apply Kd.R_drewN | apply Kd.R_drew)); exact HO326.out) hb); have n1_ := Aside0.mk (below_step (by repeat (first | (with_reducible first | exact HB.out | apply below_alloc | apply pw_below_drewN | apply below_drew1) | exact HB.out)) hb); have n2_ := Aside0.mk (hbox); have n3_ := Aside0.mk ((by rw [hg]; exact (below_size (by repeat (first | (with_reducible first | exact HB.out | apply below_alloc | apply pw_below_drewN | apply below_drew1) | exact HB.out))) : w.heap.size ≤ gb330)); have n4_ := Aside0.mk ((by rw [hg]; exact (below_size (by repeat (first | (with_reducible first | exact HB.out | apply below_alloc | apply pw_below_drewN | apply below_drew1) | exact HB.out))) : w.heap.size ≤ gb330)); clear HO326; clear HB; have HO326 := n0_; have HB := n1_; have BK330 := n2_; have GW330 := n3_; have GE330 := n4_; clear n0_ n1_ n2_ n3_ n4_; clear hb hbox hg; obtain ⟨Ao33, co33, eo33⟩ := Kd.R_slice HO326.out; subst eo33; have hcz34_0 : w32.cell? ⟨gb330, 0, none⟩ = some (.slice none 0 0) := (blk_cell BK330.out 0).trans rfl; have hcz34_1 : w32.cell? ⟨gb330, 1, none⟩ = some (.bool false) := (blk_cell BK330.out 1).trans rfl; have hcz34_2 : w32.cell? ⟨gb330, 2, none⟩ = some (.int .i64 0) := (blk_cell BK330.out 2).trans rfl; have hfz34_0 := blk_frozen BK330.out 0; have hfz34_1 := blk_frozen BK330.out 1; have hfz34_2 := blk_frozen BK330.out 2))
    go_ret3
    exact ⟨by first | rfl | (simp [errW_none, errW_some] <;> rfl) | (simp [*, errW_none, errW_some] <;> rfl), by repeat (first | (with_reducible first | exact HB.out | apply below_alloc | apply pw_below_drewN | apply below_drew1 | refine below_set ?_ GE330.out) | exact HB.out)⟩

/-! ### epactref09_Step: function 50 -/
def epactref09_Step.l0 : Nat → Int → Int → List (S53) → Bool → Int → Option (Int)
  | 0, _, _, _, _, _ => none
  | k + 1, x1, x5, x338000, x338001, x338002 => if x5 < (x338000.length : Int) then (if 0 ≤ x5 then (if ((rd_T53 x338000 x5).f0) = x1 then (some ((rd_T53 x338000 x5).f1)) else (epactref09_Step.l0 k x1 (wrap64 (x5 + 1)) x338000 x338001 x338002)) else (none)) else (some 0)
def epactref09_Step.f (k : Nat) (l0_0 : List (S53)) (a0_1 : Bool) (a0_2 : Int) (a1 : Int) : Option (Int) := epactref09_Step.l0 k a1 0 l0_0 a0_1 a0_2
theorem epactref09_Step.mono_l : ∀ k, (∀ y0 y1 y2 y3 y4, LeO (epactref09_Step.l0 k y0 y1 y2 y3 y4) (epactref09_Step.l0 (k + 1) y0 y1 y2 y3 y4))
  | 0 => fun _ _ _ _ _ r h => by simp [epactref09_Step.l0] at h
  | k + 1 => by
    have ih0 := epactref09_Step.mono_l k
    · intro y0 y1 y2 y3 y4
      unfold epactref09_Step.l0
      repeat' first
      | (with_reducible exact ih0 _ _ _ _ _)
      | (with_reducible exact LeO.refl _)
      | (with_reducible exact LeO.none _)
      | (with_reducible refine LeO.ite ?_ ?_)
      | (with_reducible refine LeO.bind ?_ (fun _ => ?_))
      | exact ih0 _ _ _ _ _
      | exact LeO.none _
      | refine LeO.ite ?_ ?_
      | refine LeO.bind ?_ (fun _ => ?_)
theorem epactref09_Step.mono : ∀ a0 a1 a2 a3 k, LeO (epactref09_Step.f k a0 a1 a2 a3) (epactref09_Step.f (k + 1) a0 a1 a2 a3) := by
  intro a0 a1 a2 a3 k
  have ih0 := epactref09_Step.mono_l k
  unfold epactref09_Step.f
  repeat' first
      | (with_reducible exact ih0 _ _ _ _ _)
      | (with_reducible exact LeO.refl _)
      | (with_reducible exact LeO.none _)
      | (with_reducible refine LeO.ite ?_ ?_)
      | (with_reducible refine LeO.bind ?_ (fun _ => ?_))
      | exact ih0 _ _ _ _ _
      | exact LeO.none _
      | refine LeO.ite ?_ ?_
      | refine LeO.bind ?_ (fun _ => ?_)
set_option maxHeartbeats 8000000 in
set_option maxRecDepth 100000 in
theorem epactref09_Step.calls (k : Nat) (A0_0 : Option Addr) (c0_0 : Nat) (l0_0 : List (S53)) (a0_1 : Bool) (a0_2 : Int) (a1 : Int) (r : Int) (w : World) (hr0_0 : Kd.C k53 w A0_0 l0_0.length l0_0) (hc0_0 : l0_0.length ≤ c0_0) (h : epactref09_Step.f k l0_0 a0_1 a0_2 a1 = some r) :
    Calls Try.prog 50 #[.agg #[.slice A0_0 l0_0.length c0_0, .bool a0_1, .int .i64 a0_2], .int .i64 a1] w fun e w' => e = .returned (.int .i64 r) ∧ Below w.heap.size w w' := by
  have hu38 := Try.underlying38
  have HR0_0 := Aside0.mk hr0_0
  have HC0_0 := Aside0.mk hc0_0
  clear hr0_0 hc0_0
  have HB := Aside0.mk (Below.refl w.heap.size w)
  have H : (epactref09_Step.l0 k a1 0 l0_0 a0_1 a0_2) = some r := h
  clear h
  have H' := Aside0.mk H
  clear H
  go_enter Try.func50, Try.ntmps50
  go_wp2_with (first | ((with_reducible refine gate_dst (N := 2) rfl ?_); refine box_event ?hg (N := 2) ?hd (cs := #[.slice A0_0 l0_0.length c0_0, .bool a0_1, .int .i64 a0_2]) (t := 38) ?hr ?_; (case hd => rfl); (case hg => rfl); (case hr => first | (go_simp; done) | (go_simp; rfl)); intro gb337 hg w3 hbox hb; have n0_ := Aside0.mk (below_step (by repeat (first | (with_reducible first | exact HB.out | apply below_alloc | apply pw_below_drewN | apply below_drew1) | exact HB.out)) hb); have n1_ := Aside0.mk (hbox); have n2_ := Aside0.mk ((by rw [hg]; exact (below_size (by repeat (first | (with_reducible first | exact HB.out | apply below_alloc | apply pw_below_drewN | apply below_drew1) | exact HB.out))) : w.heap.size ≤ gb337)); have n3_ := Aside0.mk ((by rw [hg]; exact (below_size (by repeat (first | (with_reducible first | exact HB.out | apply below_alloc | apply pw_below_drewN | apply below_drew1) | exact HB.out))) : w.heap.size ≤ gb337)); clear HB; have HB := n0_; have BK337 := n1_; have GW337 := n2_; have GE337 := n3_; clear n0_ n1_ n2_ n3_; clear hb hbox hg))
  go_loopg [5] k (fun kq v5 w' => ∃ (x5_1 : Int), v5 = .int .i64 x5_1 ∧ Aside0 (epactref09_Step.l0 kq a1 x5_1 l0_0 a0_1 a0_2 = some r) ∧ Aside0 (kq ≤ k) ∧ Aside0 (w'.heap[gb337]? = some (.cells #[(.slice A0_0 l0_0.length c0_0), .bool a0_1, .int .i64 a0_2] 38 (0, 0))) ∧ Aside0 (Below w.heap.size w w'))
  case atStart => exact ⟨(0), (by first | rfl | (simp; done) | (simp [*]; done)), H', ⟨Nat.le_refl _⟩, ⟨by (with_reducible repeat (first | refine blk_drewN ?_ _ | refine blk_drew ?_ | refine blk_alloc ?_ _)); exact BK337.out⟩, ⟨by repeat (first | (with_reducible first | exact HB.out | apply below_alloc | apply pw_below_drewN | apply below_drew1 | refine below_set ?_ GE337.out) | exact HB.out)⟩⟩
  case round =>
    clear H'
    try clear p2
    obtain ⟨x5_1, rfl, HA, HK1, BK337, HB⟩ := hrel
    cases gk with
    | zero => exact absurd HA.out (by simp [epactref09_Step.l0])
    | succ k1 =>
      have H := HA.out
      clear HA
      simp only [epactref09_Step.l0] at H
      by_cases c4 : x5_1 < (l0_0.length : Int)
      · rw [if_pos c4] at H
        have c4b0 : decide (x5_1 < (l0_0.length : Int)) = true := decide_eq_true c4
        clear c4
        by_cases c5 : 0 ≤ x5_1
        · rw [if_pos c5] at H
          have c5b0 : decide (0 ≤ x5_1) = true := decide_eq_true c5
          clear c5
          by_cases c6 : ((rd_T53 l0_0 x5_1).f0) = a1
          · rw [if_pos c6] at H
            have c6b0 : (((rd_T53 l0_0 x5_1).f0) == a1) = true := beq_iff_eq.mpr c6
            have c6b1 : (((rd_T53 l0_0 x5_1).f0) != a1) = false := bne_eq_false_iff_eq.mpr c6
            clear c6
            obtain rfl := Option.some.inj H
            have hcz7_0 : wr.cell? ⟨gb337, 0, none⟩ = some (.slice A0_0 l0_0.length c0_0) := (blk_cell BK337.out 0).trans rfl
            have hcz7_1 : wr.cell? ⟨gb337, 1, none⟩ = some (.bool a0_1) := (blk_cell BK337.out 1).trans rfl
            have hcz7_2 : wr.cell? ⟨gb337, 2, none⟩ = some (.int .i64 a0_2) := (blk_cell BK337.out 2).trans rfl
            have hfz7_0 := blk_frozen BK337.out 0
            have hfz7_1 := blk_frozen BK337.out 1
            have hfz7_2 := blk_frozen BK337.out 2
            have p338 : 0 ≤ (x5_1 : Int) := of_decide_eq_true (by first | (with_reducible assumption) | assumption)
            have q338 : x5_1 < (l0_0.length : Int) := of_decide_eq_true (by first | (with_reducible assumption) | assumption)
            obtain ⟨ad338, e338, hx338_0, hx338_1, hx338_2⟩ := at_T53 HR0_0.out x5_1 p338 q338
            cases e338
            replace hx338_0 := (HB.out.cell (World.block_lt_of_cell? w _ hx338_0)).trans hx338_0
            replace hx338_1 := (HB.out.cell (World.block_lt_of_cell? w _ hx338_1)).trans hx338_1
            replace hx338_2 := (HB.out.cell (World.block_lt_of_cell? w _ hx338_2)).trans hx338_2
            replace p338 := eq_true p338
            replace q338 := eq_true q338
            have p339 : 0 ≤ (x5_1 : Int) := of_decide_eq_true (by first | (with_reducible assumption) | assumption)
            have q339 : x5_1 < (l0_0.length : Int) := of_decide_eq_true (by first | (with_reducible assumption) | assumption)
            obtain ⟨ad339, e339, hx339_0, hx339_1, hx339_2⟩ := at_T53 HR0_0.out x5_1 p339 q339
            obtain rfl : ad338 = ad339 := (by injection e339)
            replace hx339_0 := (HB.out.cell (World.block_lt_of_cell? w _ hx339_0)).trans hx339_0
            replace hx339_1 := (HB.out.cell (World.block_lt_of_cell? w _ hx339_1)).trans hx339_1
            replace hx339_2 := (HB.out.cell (World.block_lt_of_cell? w _ hx339_2)).trans hx339_2
            replace p339 := eq_true p339
            replace q339 := eq_true q339
            go_wp2
            go_ret
            exact ⟨by first | rfl | (simp [errW_none, errW_some] <;> rfl) | (simp [*, errW_none, errW_some] <;> rfl), by repeat (first | (with_reducible first | exact HB.out | apply below_alloc | apply pw_below_drewN | apply below_drew1 | refine below_set ?_ GE337.out) | exact HB.out)⟩
          · rw [if_neg c6] at H
            have c6b0 : (((rd_T53 l0_0 x5_1).f0) == a1) = false := beq_eq_false_iff_ne.mpr c6
            have c6b1 : (((rd_T53 l0_0 x5_1).f0) != a1) = true := bne_iff_ne.mpr c6
            have H' := Aside0.mk H
            clear H
            have hcz8_0 : wr.cell? ⟨gb337, 0, none⟩ = some (.slice A0_0 l0_0.length c0_0) := (blk_cell BK337.out 0).trans rfl
            have hcz8_1 : wr.cell? ⟨gb337, 1, none⟩ = some (.bool a0_1) := (blk_cell BK337.out 1).trans rfl
            have hcz8_2 : wr.cell? ⟨gb337, 2, none⟩ = some (.int .i64 a0_2) := (blk_cell BK337.out 2).trans rfl
            have hfz8_0 := blk_frozen BK337.out 0
            have hfz8_1 := blk_frozen BK337.out 1
            have hfz8_2 := blk_frozen BK337.out 2
            have p338 : 0 ≤ (x5_1 : Int) := of_decide_eq_true (by first | (with_reducible assumption) | assumption)
            have q338 : x5_1 < (l0_0.length : Int) := of_decide_eq_true (by first | (with_reducible assumption) | assumption)
            obtain ⟨ad338, e338, hx338_0, hx338_1, hx338_2⟩ := at_T53 HR0_0.out x5_1 p338 q338
            cases e338
            replace hx338_0 := (HB.out.cell (World.block_lt_of_cell? w _ hx338_0)).trans hx338_0
            replace hx338_1 := (HB.out.cell (World.block_lt_of_cell? w _ hx338_1)).trans hx338_1
            replace hx338_2 := (HB.out.cell (World.block_lt_of_cell? w _ hx338_2)).trans hx338_2
            replace p338 := eq_true p338
            replace q338 := eq_true q338
            go_wp2
            go_roundg k1
            case measure => have := HK1.out; omega
            case rel => exact ⟨(wrap64 (x5_1 + 1)), (by first | rfl | (simp; done) | (simp [*]; done)), H', ⟨by have := HK1.out; omega⟩, ⟨by (with_reducible repeat (first | refine blk_drewN ?_ _ | refine blk_drew ?_ | refine blk_alloc ?_ _)); exact BK337.out⟩, ⟨by repeat (first | (with_reducible first | exact HB.out | apply below_alloc | apply pw_below_drewN | apply below_drew1 | refine below_set ?_ GE337.out) | exact HB.out)⟩⟩
        · rw [if_neg c5] at H
          exact absurd H (by simp)
      · rw [if_neg c4] at H
        have c4b0 : decide (x5_1 < (l0_0.length : Int)) = false := decide_eq_false c4
        clear c4
        obtain rfl := Option.some.inj H
        have hcz9_0 : wr.cell? ⟨gb337, 0, none⟩ = some (.slice A0_0 l0_0.length c0_0) := (blk_cell BK337.out 0).trans rfl
        have hcz9_1 : wr.cell? ⟨gb337, 1, none⟩ = some (.bool a0_1) := (blk_cell BK337.out 1).trans rfl
        have hcz9_2 : wr.cell? ⟨gb337, 2, none⟩ = some (.int .i64 a0_2) := (blk_cell BK337.out 2).trans rfl
        have hfz9_0 := blk_frozen BK337.out 0
        have hfz9_1 := blk_frozen BK337.out 1
        have hfz9_2 := blk_frozen BK337.out 2
        go_wp2
        go_ret
        exact ⟨by first | rfl | (simp [errW_none, errW_some] <;> rfl) | (simp [*, errW_none, errW_some] <;> rfl), by repeat (first | (with_reducible first | exact HB.out | apply below_alloc | apply pw_below_drewN | apply below_drew1 | refine below_set ?_ GE337.out) | exact HB.out)⟩

/-! ### epactref09_Length: function 33 -/
def epactref09_Length.f (k : Nat) (l0_0 : List (S53)) (a0_1 : Bool) (a0_2 : Int) (a1 : Int) : Option (Int) := (epactref09_Step.f k l0_0 a0_1 a0_2 a1).bind fun t341 => (some (wrap64 (86400 + t341)))
theorem epactref09_Length.mono : ∀ a0 a1 a2 a3 k, LeO (epactref09_Length.f k a0 a1 a2 a3) (epactref09_Length.f (k + 1) a0 a1 a2 a3) := by
  intro a0 a1 a2 a3 k
  unfold epactref09_Length.f
  repeat' first
      | (with_reducible exact epactref09_Step.mono _ _ _ _ _)
      | (with_reducible exact LeO.refl _)
      | (with_reducible exact LeO.none _)
      | (with_reducible refine LeO.ite ?_ ?_)
      | (with_reducible refine LeO.bind ?_ (fun _ => ?_))
      | exact epactref09_Step.mono _ _ _ _ _
      | exact LeO.none _
      | refine LeO.ite ?_ ?_
      | refine LeO.bind ?_ (fun _ => ?_)
set_option maxHeartbeats 8000000 in
set_option maxRecDepth 100000 in
theorem epactref09_Length.calls (k : Nat) (A0_0 : Option Addr) (c0_0 : Nat) (l0_0 : List (S53)) (a0_1 : Bool) (a0_2 : Int) (a1 : Int) (r : Int) (w : World) (hr0_0 : Kd.C k53 w A0_0 l0_0.length l0_0) (hc0_0 : l0_0.length ≤ c0_0) (h : epactref09_Length.f k l0_0 a0_1 a0_2 a1 = some r) :
    Calls Try.prog 33 #[.agg #[.slice A0_0 l0_0.length c0_0, .bool a0_1, .int .i64 a0_2], .int .i64 a1] w fun e w' => e = .returned (.int .i64 r) ∧ Below w.heap.size w w' := by
  have hu38 := Try.underlying38
  have HR0_0 := Aside0.mk hr0_0
  have HC0_0 := Aside0.mk hc0_0
  clear hr0_0 hc0_0
  have HB := Aside0.mk (Below.refl w.heap.size w)
  have H : ((epactref09_Step.f k l0_0 a0_1 a0_2 a1).bind fun t341 => (some (wrap64 (86400 + t341)))) = some r := h
  clear h
  replace H := Option.bind_eq_some_iff.mp H
  obtain ⟨t341, A30, H⟩ := H
  replace H : (some (wrap64 (86400 + t341))) = some r := H
  have A3 := Aside0.mk A30
  clear A30
  obtain rfl := Option.some.inj H
  go_enter Try.func33, Try.ntmps33
  go_wp2_with (first | ((with_reducible refine gate_dst (N := 2) rfl ?_); refine box_event ?hg (N := 2) ?hd (cs := #[.slice A0_0 l0_0.length c0_0, .bool a0_1, .int .i64 a0_2]) (t := 38) ?hr ?_; (case hd => rfl); (case hg => rfl); (case hr => first | (go_simp; done) | (go_simp; rfl)); intro gb340 hg w4 hbox hb; have n0_ := Aside0.mk (below_step (by repeat (first | (with_reducible first | exact HB.out | apply below_alloc | apply pw_below_drewN | apply below_drew1) | exact HB.out)) hb); have n1_ := Aside0.mk (hbox); have n2_ := Aside0.mk ((by rw [hg]; exact (below_size (by repeat (first | (with_reducible first | exact HB.out | apply below_alloc | apply pw_below_drewN | apply below_drew1) | exact HB.out))) : w.heap.size ≤ gb340)); have n3_ := Aside0.mk ((by rw [hg]; exact (below_size (by repeat (first | (with_reducible first | exact HB.out | apply below_alloc | apply pw_below_drewN | apply below_drew1) | exact HB.out))) : w.heap.size ≤ gb340)); clear HB; have HB := n0_; have BK340 := n1_; have GW340 := n2_; have GE340 := n3_; clear n0_ n1_ n2_ n3_; clear hb hbox hg; have hcz5_0 : w4.cell? ⟨gb340, 0, none⟩ = some (.slice A0_0 l0_0.length c0_0) := (blk_cell BK340.out 0).trans rfl; have hcz5_1 : w4.cell? ⟨gb340, 1, none⟩ = some (.bool a0_1) := (blk_cell BK340.out 1).trans rfl; have hcz5_2 : w4.cell? ⟨gb340, 2, none⟩ = some (.int .i64 a0_2) := (blk_cell BK340.out 2).trans rfl; have hfz5_0 := blk_frozen BK340.out 0; have hfz5_1 := blk_frozen BK340.out 1; have hfz5_2 := blk_frozen BK340.out 2) | ((with_reducible refine gate_callee (f := 50) rfl ?_); refine goesL_ (some 7) rfl rfl Try.func50 (by kernel_rfl) rfl #[.agg #[.slice A0_0 l0_0.length c0_0, .bool a0_1, .int .i64 a0_2], .int .i64 a1] rfl (by (try simp only [List.map_toArray, List.map_cons, List.map_nil]); first | done | rfl | (simp only [List.length_drop, List.length_take]; rfl)) ?_; (with_reducible refine (epactref09_Step.calls k _ _ l0_0 a0_1 a0_2 a1 t341 _ ?side1 ?side2 A3.out).mono ?_); (case side1 => repeat (first | exact (Kd.C_below HR0_0.out HB.out) | (with_reducible refine Kd.C_alloc ?_ _) | (with_reducible refine Kd.C_drewN ?_ _) | (with_reducible refine Kd.C_drew ?_))); (case side2 => exact HC0_0.out); rintro e w6 ⟨rfl, hb⟩; refine ⟨_, rfl, ?_⟩; have n0_ := Aside0.mk (blk_below (g := gb340) (o := .cells #[.slice A0_0 l0_0.length c0_0, .bool a0_1, .int .i64 a0_2] 38 (0, 0)) (by (with_reducible repeat (first | refine blk_drewN ?_ _ | refine blk_drew ?_ | refine blk_alloc ?_ _)); exact BK340.out) hb); have n1_ := Aside0.mk (below_step (by repeat (first | (with_reducible first | exact HB.out | apply below_alloc | apply pw_below_drewN | apply below_drew1 | refine below_set ?_ GE340.out) | exact HB.out)) hb); clear BK340; clear HB; have BK340 := n0_; have HB := n1_; clear n0_ n1_; (try clear hb); (try clear hb2); (try clear hk); (try clear hi)))
  go_ret
  exact ⟨by first | rfl | (simp [errW_none, errW_some] <;> rfl) | (simp [*, errW_none, errW_some] <;> rfl), by repeat (first | (with_reducible first | exact HB.out | apply below_alloc | apply pw_below_drewN | apply below_drew1 | refine below_set ?_ GE340.out) | exact HB.out)⟩

/-! ### epactref09_Find: function 51 -/
def epactref09_Find.l0 : Nat → Int → Int → List (S53) → Bool → Int → Option (Int)
  | 0, _, _, _, _, _ => none
  | k + 1, x1, x5, x343000, x343001, x343002 => if x5 < (x343000.length : Int) then (if 0 ≤ x5 then (if ((rd_T53 x343000 x5).f0) < x1 then (epactref09_Find.l0 k x1 (wrap64 (x5 + 1)) x343000 x343001 x343002) else (some x5)) else (none)) else (some x5)
def epactref09_Find.f (k : Nat) (l0_0 : List (S53)) (a0_1 : Bool) (a0_2 : Int) (a1 : Int) : Option (Int) := epactref09_Find.l0 k a1 0 l0_0 a0_1 a0_2
theorem epactref09_Find.mono_l : ∀ k, (∀ y0 y1 y2 y3 y4, LeO (epactref09_Find.l0 k y0 y1 y2 y3 y4) (epactref09_Find.l0 (k + 1) y0 y1 y2 y3 y4))
  | 0 => fun _ _ _ _ _ r h => by simp [epactref09_Find.l0] at h
  | k + 1 => by
    have ih0 := epactref09_Find.mono_l k
    · intro y0 y1 y2 y3 y4
      unfold epactref09_Find.l0
      repeat' first
      | (with_reducible exact ih0 _ _ _ _ _)
      | (with_reducible exact LeO.refl _)
      | (with_reducible exact LeO.none _)
      | (with_reducible refine LeO.ite ?_ ?_)
      | (with_reducible refine LeO.bind ?_ (fun _ => ?_))
      | exact ih0 _ _ _ _ _
      | exact LeO.none _
      | refine LeO.ite ?_ ?_
      | refine LeO.bind ?_ (fun _ => ?_)
theorem epactref09_Find.mono : ∀ a0 a1 a2 a3 k, LeO (epactref09_Find.f k a0 a1 a2 a3) (epactref09_Find.f (k + 1) a0 a1 a2 a3) := by
  intro a0 a1 a2 a3 k
  have ih0 := epactref09_Find.mono_l k
  unfold epactref09_Find.f
  repeat' first
      | (with_reducible exact ih0 _ _ _ _ _)
      | (with_reducible exact LeO.refl _)
      | (with_reducible exact LeO.none _)
      | (with_reducible refine LeO.ite ?_ ?_)
      | (with_reducible refine LeO.bind ?_ (fun _ => ?_))
      | exact ih0 _ _ _ _ _
      | exact LeO.none _
      | refine LeO.ite ?_ ?_
      | refine LeO.bind ?_ (fun _ => ?_)
set_option maxHeartbeats 8000000 in
set_option maxRecDepth 100000 in
theorem epactref09_Find.calls (k : Nat) (A0_0 : Option Addr) (c0_0 : Nat) (l0_0 : List (S53)) (a0_1 : Bool) (a0_2 : Int) (a1 : Int) (r : Int) (w : World) (hr0_0 : Kd.C k53 w A0_0 l0_0.length l0_0) (hc0_0 : l0_0.length ≤ c0_0) (h : epactref09_Find.f k l0_0 a0_1 a0_2 a1 = some r) :
    Calls Try.prog 51 #[.agg #[.slice A0_0 l0_0.length c0_0, .bool a0_1, .int .i64 a0_2], .int .i64 a1] w fun e w' => e = .returned (.int .i64 r) ∧ Below w.heap.size w w' := by
  have hu38 := Try.underlying38
  have HR0_0 := Aside0.mk hr0_0
  have HC0_0 := Aside0.mk hc0_0
  clear hr0_0 hc0_0
  have HB := Aside0.mk (Below.refl w.heap.size w)
  have H : (epactref09_Find.l0 k a1 0 l0_0 a0_1 a0_2) = some r := h
  clear h
  have H' := Aside0.mk H
  clear H
  go_enter Try.func51, Try.ntmps51
  go_wp2_with (first | ((with_reducible refine gate_dst (N := 2) rfl ?_); refine box_event ?hg (N := 2) ?hd (cs := #[.slice A0_0 l0_0.length c0_0, .bool a0_1, .int .i64 a0_2]) (t := 38) ?hr ?_; (case hd => rfl); (case hg => rfl); (case hr => first | (go_simp; done) | (go_simp; rfl)); intro gb342 hg w3 hbox hb; have n0_ := Aside0.mk (below_step (by repeat (first | (with_reducible first | exact HB.out | apply below_alloc | apply pw_below_drewN | apply below_drew1) | exact HB.out)) hb); have n1_ := Aside0.mk (hbox); have n2_ := Aside0.mk ((by rw [hg]; exact (below_size (by repeat (first | (with_reducible first | exact HB.out | apply below_alloc | apply pw_below_drewN | apply below_drew1) | exact HB.out))) : w.heap.size ≤ gb342)); have n3_ := Aside0.mk ((by rw [hg]; exact (below_size (by repeat (first | (with_reducible first | exact HB.out | apply below_alloc | apply pw_below_drewN | apply below_drew1) | exact HB.out))) : w.heap.size ≤ gb342)); clear HB; have HB := n0_; have BK342 := n1_; have GW342 := n2_; have GE342 := n3_; clear n0_ n1_ n2_ n3_; clear hb hbox hg))
  go_loopg [5] k (fun kq v5 w' => ∃ (x5_1 : Int), v5 = .int .i64 x5_1 ∧ Aside0 (epactref09_Find.l0 kq a1 x5_1 l0_0 a0_1 a0_2 = some r) ∧ Aside0 (kq ≤ k) ∧ Aside0 (w'.heap[gb342]? = some (.cells #[(.slice A0_0 l0_0.length c0_0), .bool a0_1, .int .i64 a0_2] 38 (0, 0))) ∧ Aside0 (Below w.heap.size w w'))
  case atStart => exact ⟨(0), (by first | rfl | (simp; done) | (simp [*]; done)), H', ⟨Nat.le_refl _⟩, ⟨by (with_reducible repeat (first | refine blk_drewN ?_ _ | refine blk_drew ?_ | refine blk_alloc ?_ _)); exact BK342.out⟩, ⟨by repeat (first | (with_reducible first | exact HB.out | apply below_alloc | apply pw_below_drewN | apply below_drew1 | refine below_set ?_ GE342.out) | exact HB.out)⟩⟩
  case round =>
    clear H'
    try clear p2
    obtain ⟨x5_1, rfl, HA, HK1, BK342, HB⟩ := hrel
    cases gk with
    | zero => exact absurd HA.out (by simp [epactref09_Find.l0])
    | succ k1 =>
      have H := HA.out
      clear HA
      simp only [epactref09_Find.l0] at H
      by_cases c4 : x5_1 < (l0_0.length : Int)
      · rw [if_pos c4] at H
        have c4b0 : decide (x5_1 < (l0_0.length : Int)) = true := decide_eq_true c4
        clear c4
        by_cases c5 : 0 ≤ x5_1
        · rw [if_pos c5] at H
          have c5b0 : decide (0 ≤ x5_1) = true := decide_eq_true c5
          clear c5
          by_cases c6 : ((rd_T53 l0_0 x5_1).f0) < a1
          · rw [if_pos c6] at H
            have c6b0 : decide (((rd_T53 l0_0 x5_1).f0) < a1) = true := decide_eq_true c6
            clear c6
            have H' := Aside0.mk H
            clear H
            have hcz7_0 : wr.cell? ⟨gb342, 0, none⟩ = some (.slice A0_0 l0_0.length c0_0) := (blk_cell BK342.out 0).trans rfl
            have hcz7_1 : wr.cell? ⟨gb342, 1, none⟩ = some (.bool a0_1) := (blk_cell BK342.out 1).trans rfl
            have hcz7_2 : wr.cell? ⟨gb342, 2, none⟩ = some (.int .i64 a0_2) := (blk_cell BK342.out 2).trans rfl
            have hfz7_0 := blk_frozen BK342.out 0
            have hfz7_1 := blk_frozen BK342.out 1
            have hfz7_2 := blk_frozen BK342.out 2
            have p343 : 0 ≤ (x5_1 : Int) := of_decide_eq_true (by first | (with_reducible assumption) | assumption)
            have q343 : x5_1 < (l0_0.length : Int) := of_decide_eq_true (by first | (with_reducible assumption) | assumption)
            obtain ⟨ad343, e343, hx343_0, hx343_1, hx343_2⟩ := at_T53 HR0_0.out x5_1 p343 q343
            cases e343
            replace hx343_0 := (HB.out.cell (World.block_lt_of_cell? w _ hx343_0)).trans hx343_0
            replace hx343_1 := (HB.out.cell (World.block_lt_of_cell? w _ hx343_1)).trans hx343_1
            replace hx343_2 := (HB.out.cell (World.block_lt_of_cell? w _ hx343_2)).trans hx343_2
            replace p343 := eq_true p343
            replace q343 := eq_true q343
            go_wp2
            go_roundg k1
            case measure => have := HK1.out; omega
            case rel => exact ⟨(wrap64 (x5_1 + 1)), (by first | rfl | (simp; done) | (simp [*]; done)), H', ⟨by have := HK1.out; omega⟩, ⟨by (with_reducible repeat (first | refine blk_drewN ?_ _ | refine blk_drew ?_ | refine blk_alloc ?_ _)); exact BK342.out⟩, ⟨by repeat (first | (with_reducible first | exact HB.out | apply below_alloc | apply pw_below_drewN | apply below_drew1 | refine below_set ?_ GE342.out) | exact HB.out)⟩⟩
          · rw [if_neg c6] at H
            have c6b0 : decide (((rd_T53 l0_0 x5_1).f0) < a1) = false := decide_eq_false c6
            clear c6
            obtain rfl := Option.some.inj H
            have hcz8_0 : wr.cell? ⟨gb342, 0, none⟩ = some (.slice A0_0 l0_0.length c0_0) := (blk_cell BK342.out 0).trans rfl
            have hcz8_1 : wr.cell? ⟨gb342, 1, none⟩ = some (.bool a0_1) := (blk_cell BK342.out 1).trans rfl
            have hcz8_2 : wr.cell? ⟨gb342, 2, none⟩ = some (.int .i64 a0_2) := (blk_cell BK342.out 2).trans rfl
            have hfz8_0 := blk_frozen BK342.out 0
            have hfz8_1 := blk_frozen BK342.out 1
            have hfz8_2 := blk_frozen BK342.out 2
            have p343 : 0 ≤ (x5_1 : Int) := of_decide_eq_true (by first | (with_reducible assumption) | assumption)
            have q343 : x5_1 < (l0_0.length : Int) := of_decide_eq_true (by first | (with_reducible assumption) | assumption)
            obtain ⟨ad343, e343, hx343_0, hx343_1, hx343_2⟩ := at_T53 HR0_0.out x5_1 p343 q343
            cases e343
            replace hx343_0 := (HB.out.cell (World.block_lt_of_cell? w _ hx343_0)).trans hx343_0
            replace hx343_1 := (HB.out.cell (World.block_lt_of_cell? w _ hx343_1)).trans hx343_1
            replace hx343_2 := (HB.out.cell (World.block_lt_of_cell? w _ hx343_2)).trans hx343_2
            replace p343 := eq_true p343
            replace q343 := eq_true q343
            go_wp2
            go_ret
            exact ⟨by first | rfl | (simp [errW_none, errW_some] <;> rfl) | (simp [*, errW_none, errW_some] <;> rfl), by repeat (first | (with_reducible first | exact HB.out | apply below_alloc | apply pw_below_drewN | apply below_drew1 | refine below_set ?_ GE342.out) | exact HB.out)⟩
        · rw [if_neg c5] at H
          exact absurd H (by simp)
      · rw [if_neg c4] at H
        have c4b0 : decide (x5_1 < (l0_0.length : Int)) = false := decide_eq_false c4
        clear c4
        obtain rfl := Option.some.inj H
        have hcz9_0 : wr.cell? ⟨gb342, 0, none⟩ = some (.slice A0_0 l0_0.length c0_0) := (blk_cell BK342.out 0).trans rfl
        have hcz9_1 : wr.cell? ⟨gb342, 1, none⟩ = some (.bool a0_1) := (blk_cell BK342.out 1).trans rfl
        have hcz9_2 : wr.cell? ⟨gb342, 2, none⟩ = some (.int .i64 a0_2) := (blk_cell BK342.out 2).trans rfl
        have hfz9_0 := blk_frozen BK342.out 0
        have hfz9_1 := blk_frozen BK342.out 1
        have hfz9_2 := blk_frozen BK342.out 2
        go_wp2
        go_ret
        exact ⟨by first | rfl | (simp [errW_none, errW_some] <;> rfl) | (simp [*, errW_none, errW_some] <;> rfl), by repeat (first | (with_reducible first | exact HB.out | apply below_alloc | apply pw_below_drewN | apply below_drew1 | refine below_set ?_ GE342.out) | exact HB.out)⟩

/-! ### epactref09_Total: function 34 -/
def epactref09_Total.l0 : Nat → Int → Int → Int → List (S53) → Bool → Int → Option (Int)
  | 0, _, _, _, _, _, _ => none
  | k + 1, x1, x5, x6, x345000, x345001, x345002 => (epactref09_Find.f k x345000 x345001 x345002 x1).bind fun t345 => (if x6 < t345 then (if 0 ≤ x6 then (if x6 < (x345000.length : Int) then (epactref09_Total.l0 k x1 (wrap64 (x5 + ((rd_T53 x345000 x6).f1))) (wrap64 (x6 + 1)) x345000 x345001 x345002) else (none)) else (none)) else (some x5))
def epactref09_Total.f (k : Nat) (l0_0 : List (S53)) (a0_1 : Bool) (a0_2 : Int) (a1 : Int) : Option (Int) := epactref09_Total.l0 k a1 0 0 l0_0 a0_1 a0_2
theorem epactref09_Total.mono_l : ∀ k, (∀ y0 y1 y2 y3 y4 y5, LeO (epactref09_Total.l0 k y0 y1 y2 y3 y4 y5) (epactref09_Total.l0 (k + 1) y0 y1 y2 y3 y4 y5))
  | 0 => fun _ _ _ _ _ _ r h => by simp [epactref09_Total.l0] at h
  | k + 1 => by
    have ih0 := epactref09_Total.mono_l k
    · intro y0 y1 y2 y3 y4 y5
      unfold epactref09_Total.l0
      repeat' first
      | (with_reducible exact ih0 _ _ _ _ _ _)
      | (with_reducible exact epactref09_Find.mono _ _ _ _ _)
      | (with_reducible exact LeO.refl _)
      | (with_reducible exact LeO.none _)
      | (with_reducible refine LeO.ite ?_ ?_)
      | (with_reducible refine LeO.bind ?_ (fun _ => ?_))
      | exact ih0 _ _ _ _ _ _
      | exact epactref09_Find.mono _ _ _ _ _
      | exact LeO.none _
      | refine LeO.ite ?_ ?_
      | refine LeO.bind ?_ (fun _ => ?_)
theorem epactref09_Total.mono : ∀ a0 a1 a2 a3 k, LeO (epactref09_Total.f k a0 a1 a2 a3) (epactref09_Total.f (k + 1) a0 a1 a2 a3) := by
  intro a0 a1 a2 a3 k
  have ih0 := epactref09_Total.mono_l k
  unfold epactref09_Total.f
  repeat' first
      | (with_reducible exact ih0 _ _ _ _ _ _)
      | (with_reducible exact epactref09_Find.mono _ _ _ _ _)
      | (with_reducible exact LeO.refl _)
      | (with_reducible exact LeO.none _)
      | (with_reducible refine LeO.ite ?_ ?_)
      | (with_reducible refine LeO.bind ?_ (fun _ => ?_))
      | exact ih0 _ _ _ _ _ _
      | exact epactref09_Find.mono _ _ _ _ _
      | exact LeO.none _
      | refine LeO.ite ?_ ?_
      | refine LeO.bind ?_ (fun _ => ?_)
set_option maxHeartbeats 8000000 in
set_option maxRecDepth 100000 in
theorem epactref09_Total.calls (k : Nat) (A0_0 : Option Addr) (c0_0 : Nat) (l0_0 : List (S53)) (a0_1 : Bool) (a0_2 : Int) (a1 : Int) (r : Int) (w : World) (hr0_0 : Kd.C k53 w A0_0 l0_0.length l0_0) (hc0_0 : l0_0.length ≤ c0_0) (h : epactref09_Total.f k l0_0 a0_1 a0_2 a1 = some r) :
    Calls Try.prog 34 #[.agg #[.slice A0_0 l0_0.length c0_0, .bool a0_1, .int .i64 a0_2], .int .i64 a1] w fun e w' => e = .returned (.int .i64 r) ∧ Below w.heap.size w w' := by
  have hu38 := Try.underlying38
  have HR0_0 := Aside0.mk hr0_0
  have HC0_0 := Aside0.mk hc0_0
  clear hr0_0 hc0_0
  have HB := Aside0.mk (Below.refl w.heap.size w)
  have H : (epactref09_Total.l0 k a1 0 0 l0_0 a0_1 a0_2) = some r := h
  clear h
  have H' := Aside0.mk H
  clear H
  go_enter Try.func34, Try.ntmps34
  go_wp2_with (first | ((with_reducible refine gate_dst (N := 2) rfl ?_); refine box_event ?hg (N := 2) ?hd (cs := #[.slice A0_0 l0_0.length c0_0, .bool a0_1, .int .i64 a0_2]) (t := 38) ?hr ?_; (case hd => rfl); (case hg => rfl); (case hr => first | (go_simp; done) | (go_simp; rfl)); intro gb344 hg w3 hbox hb; have n0_ := Aside0.mk (below_step (by repeat (first | (with_reducible first | exact HB.out | apply below_alloc | apply pw_below_drewN | apply below_drew1) | exact HB.out)) hb); have n1_ := Aside0.mk (hbox); have n2_ := Aside0.mk ((by rw [hg]; exact (below_size (by repeat (first | (with_reducible first | exact HB.out | apply below_alloc | apply pw_below_drewN | apply below_drew1) | exact HB.out))) : w.heap.size ≤ gb344)); have n3_ := Aside0.mk ((by rw [hg]; exact (below_size (by repeat (first | (with_reducible first | exact HB.out | apply below_alloc | apply pw_below_drewN | apply below_drew1) | exact HB.out))) : w.heap.size ≤ gb344)); clear HB; have HB := n0_; have BK344 := n1_; have GW344 := n2_; have GE344 := n3_; clear n0_ n1_ n2_ n3_; clear hb hbox hg))
  go_loopg [5, 6] k (fun kq v5 v6 w' => ∃ (x5_1 : Int) (x6_1 : Int), v5 = .int .i64 x5_1 ∧ v6 = .int .i64 x6_1 ∧ Aside0 (epactref09_Total.l0 kq a1 x5_1 x6_1 l0_0 a0_1 a0_2 = some r) ∧ Aside0 (kq ≤ k) ∧ Aside0 (w'.heap[gb344]? = some (.cells #[(.slice A0_0 l0_0.length c0_0), .bool a0_1, .int .i64 a0_2] 38 (0, 0))) ∧ Aside0 (Below w.heap.size w w'))
  case atStart => exact ⟨(0), (0), (by first | rfl | (simp; done) | (simp [*]; done)), (by first | rfl | (simp; done) | (simp [*]; done)), H', ⟨Nat.le_refl _⟩, ⟨by (with_reducible repeat (first | refine blk_drewN ?_ _ | refine blk_drew ?_ | refine blk_alloc ?_ _)); exact BK344.out⟩, ⟨by repeat (first | (with_reducible first | exact HB.out | apply below_alloc | apply pw_below_drewN | apply below_drew1 | refine below_set ?_ GE344.out) | exact HB.out)⟩⟩
  case round =>
    clear H'
    try clear p2
    try clear c3
    obtain ⟨x5_1, x6_1, rfl, rfl, HA, HK1, BK344, HB⟩ := hrel
    cases gk with
    | zero => exact absurd HA.out (by simp [epactref09_Total.l0])
    | succ k1 =>
      have H := HA.out
      clear HA
      simp only [epactref09_Total.l0] at H
      replace H := Option.bind_eq_some_iff.mp H
      obtain ⟨t345, A40, H⟩ := H
      replace H : (if x6_1 < t345 then (if 0 ≤ x6_1 then (if x6_1 < (l0_0.length : Int) then (epactref09_Total.l0 k1 a1 (wrap64 (x5_1 + ((rd_T53 l0_0 x6_1).f1))) (wrap64 (x6_1 + 1)) l0_0 a0_1 a0_2) else (none)) else (none)) else (some x5_1)) = some r := H
      have A4 := Aside0.mk A40
      clear A40
      by_cases c5 : x6_1 < t345
      · rw [if_pos c5] at H
        have c5b0 : decide (x6_1 < t345) = true := decide_eq_true c5
        clear c5
        by_cases c6 : 0 ≤ x6_1
        · rw [if_pos c6] at H
          have c6b0 : decide (0 ≤ x6_1) = true := decide_eq_true c6
          clear c6
          by_cases c7 : x6_1 < (l0_0.length : Int)
          · rw [if_pos c7] at H
            have c7b0 : decide (x6_1 < (l0_0.length : Int)) = true := decide_eq_true c7
            clear c7
            have H' := Aside0.mk H
            clear H
            have hcz8_0 : wr.cell? ⟨gb344, 0, none⟩ = some (.slice A0_0 l0_0.length c0_0) := (blk_cell BK344.out 0).trans rfl
            have hcz8_1 : wr.cell? ⟨gb344, 1, none⟩ = some (.bool a0_1) := (blk_cell BK344.out 1).trans rfl
            have hcz8_2 : wr.cell? ⟨gb344, 2, none⟩ = some (.int .i64 a0_2) := (blk_cell BK344.out 2).trans rfl
            have hfz8_0 := blk_frozen BK344.out 0
            have hfz8_1 := blk_frozen BK344.out 1
            have hfz8_2 := blk_frozen BK344.out 2
            go_wp2_with (first | ((with_reducible refine gate_callee (f := 51) rfl ?_); refine goesL_ (some 10) rfl rfl Try.func51 (by kernel_rfl) rfl #[.agg #[.slice A0_0 l0_0.length c0_0, .bool a0_1, .int .i64 a0_2], .int .i64 a1] rfl (by (try simp only [List.map_toArray, List.map_cons, List.map_nil]); first | done | rfl | (simp only [List.length_drop, List.length_take]; rfl)) ?_; (with_reducible refine (epactref09_Find.calls k1 _ _ l0_0 a0_1 a0_2 a1 t345 _ ?side1 ?side2 A4.out).mono ?_); (case side1 => repeat (first | exact (Kd.C_below HR0_0.out HB.out) | (with_reducible refine Kd.C_alloc ?_ _) | (with_reducible refine Kd.C_drewN ?_ _) | (with_reducible refine Kd.C_drew ?_))); (case side2 => exact HC0_0.out); rintro e w9 ⟨rfl, hb⟩; refine ⟨_, rfl, ?_⟩; have n0_ := Aside0.mk (blk_below (g := gb344) (o := .cells #[.slice A0_0 l0_0.length c0_0, .bool a0_1, .int .i64 a0_2] 38 (0, 0)) (by (with_reducible repeat (first | refine blk_drewN ?_ _ | refine blk_drew ?_ | refine blk_alloc ?_ _)); exact BK344.out) hb); have n1_ := Aside0.mk (below_step (by repeat (first | (with_reducible first | exact HB.out | apply below_alloc | apply pw_below_drewN | apply below_drew1 | refine below_set ?_ GE344.out) | exact HB.out)) hb); clear BK344; clear HB; have BK344 := n0_; have HB := n1_; clear n0_ n1_; (try clear hb); (try clear hb2); (try clear hk); (try clear hi); have hcz10_0 : w9.cell? ⟨gb344, 0, none⟩ = some (.slice A0_0 l0_0.length c0_0) := (blk_cell BK344.out 0).trans rfl; have hcz10_1 : w9.cell? ⟨gb344, 1, none⟩ = some (.bool a0_1) := (blk_cell BK344.out 1).trans rfl; have hcz10_2 : w9.cell? ⟨gb344, 2, none⟩ = some (.int .i64 a0_2) := (blk_cell BK344.out 2).trans rfl; have hfz10_0 := blk_frozen BK344.out 0; have hfz10_1 := blk_frozen BK344.out 1; have hfz10_2 := blk_frozen BK344.out 2; have p346 : 0 ≤ (x6_1 : Int) := of_decide_eq_true (by first | (with_reducible assumption) | assumption); have q346 : x6_1 < (l0_0.length : Int) := of_decide_eq_true (by first | (with_reducible assumption) | assumption); obtain ⟨ad346, e346, hx346_0, hx346_1, hx346_2⟩ := at_T53 HR0_0.out x6_1 p346 q346; cases e346; replace hx346_0 := (HB.out.cell (World.block_lt_of_cell? w _ hx346_0)).trans hx346_0; replace hx346_1 := (HB.out.cell (World.block_lt_of_cell? w _ hx346_1)).trans hx346_1; replace hx346_2 := (HB.out.cell (World.block_lt_of_cell? w _ hx346_2)).trans hx346_2; replace p346 := eq_true p346; replace q346 := eq_true q346))
            go_roundg k1
            case measure => have := HK1.out; omega
            case rel => exact ⟨(wrap64 (x5_1 + ((rd_T53 l0_0 x6_1).f1))), (wrap64 (x6_1 + 1)), (by first | rfl | (simp; done) | (simp [*]; done)), (by first | rfl | (simp; done) | (simp [*]; done)), H', ⟨by have := HK1.out; omega⟩, ⟨by (with_reducible repeat (first | refine blk_drewN ?_ _ | refine blk_drew ?_ | refine blk_alloc ?_ _)); exact BK344.out⟩, ⟨by repeat (first | (with_reducible first | exact HB.out | apply below_alloc | apply pw_below_drewN | apply below_drew1 | refine below_set ?_ GE344.out) | exact HB.out)⟩⟩
          · rw [if_neg c7] at H
            exact absurd H (by simp)
        · rw [if_neg c6] at H
          exact absurd H (by simp)
      · rw [if_neg c5] at H
        have c5b0 : decide (x6_1 < t345) = false := decide_eq_false c5
        clear c5
        obtain rfl := Option.some.inj H
        have hcz11_0 : wr.cell? ⟨gb344, 0, none⟩ = some (.slice A0_0 l0_0.length c0_0) := (blk_cell BK344.out 0).trans rfl
        have hcz11_1 : wr.cell? ⟨gb344, 1, none⟩ = some (.bool a0_1) := (blk_cell BK344.out 1).trans rfl
        have hcz11_2 : wr.cell? ⟨gb344, 2, none⟩ = some (.int .i64 a0_2) := (blk_cell BK344.out 2).trans rfl
        have hfz11_0 := blk_frozen BK344.out 0
        have hfz11_1 := blk_frozen BK344.out 1
        have hfz11_2 := blk_frozen BK344.out 2
        go_wp2_with (first | ((with_reducible refine gate_callee (f := 51) rfl ?_); refine goesL_ (some 10) rfl rfl Try.func51 (by kernel_rfl) rfl #[.agg #[.slice A0_0 l0_0.length c0_0, .bool a0_1, .int .i64 a0_2], .int .i64 a1] rfl (by (try simp only [List.map_toArray, List.map_cons, List.map_nil]); first | done | rfl | (simp only [List.length_drop, List.length_take]; rfl)) ?_; (with_reducible refine (epactref09_Find.calls k1 _ _ l0_0 a0_1 a0_2 a1 t345 _ ?side1 ?side2 A4.out).mono ?_); (case side1 => repeat (first | exact (Kd.C_below HR0_0.out HB.out) | (with_reducible refine Kd.C_alloc ?_ _) | (with_reducible refine Kd.C_drewN ?_ _) | (with_reducible refine Kd.C_drew ?_))); (case side2 => exact HC0_0.out); rintro e w12 ⟨rfl, hb⟩; refine ⟨_, rfl, ?_⟩; have n0_ := Aside0.mk (blk_below (g := gb344) (o := .cells #[.slice A0_0 l0_0.length c0_0, .bool a0_1, .int .i64 a0_2] 38 (0, 0)) (by (with_reducible repeat (first | refine blk_drewN ?_ _ | refine blk_drew ?_ | refine blk_alloc ?_ _)); exact BK344.out) hb); have n1_ := Aside0.mk (below_step (by repeat (first | (with_reducible first | exact HB.out | apply below_alloc | apply pw_below_drewN | apply below_drew1 | refine below_set ?_ GE344.out) | exact HB.out)) hb); clear BK344; clear HB; have BK344 := n0_; have HB := n1_; clear n0_ n1_; (try clear hb); (try clear hb2); (try clear hk); (try clear hi)))
        go_ret
        exact ⟨by first | rfl | (simp [errW_none, errW_some] <;> rfl) | (simp [*, errW_none, errW_some] <;> rfl), by repeat (first | (with_reducible first | exact HB.out | apply below_alloc | apply pw_below_drewN | apply below_drew1 | refine below_set ?_ GE344.out) | exact HB.out)⟩

end Go.Proofs.Ythecldgopjaogaa.PAll
