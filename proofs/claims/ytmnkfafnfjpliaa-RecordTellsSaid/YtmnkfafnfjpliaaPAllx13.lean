-- Written for this claim by wip/tools of this repo (after the kit's print; own contracts laid in).
import Derived.Test.YtmnkfafnfjpliaaPAllx0
import Derived.Test.YtmnkfafnfjpliaaPAllx4
import Derived.Test.YtmnkfafnfjpliaaPAllx5
import Derived.Test.YtmnkfafnfjpliaaPAllx6
import Derived.Test.YtmnkfafnfjpliaaPAllx7
import Derived.Test.YtmnkfafnfjpliaaPAllx8
import Derived.Test.YtmnkfafnfjpliaaPAllx10
import Derived.Test.YtmnkfafnfjpliaaPAllx11
import Derived.Test.YtmnkfafnfjpliaaPAllx12
namespace Go.Proofs.Ytmnkfafnfjpliaa.PAll
open Go.RowKit Go.Proofs.YtmnkfafnfjpliaaW.PrintWords Go.Proofs.YtmnkfafnfjpliaaW.PrintLast Go.Proofs.YtmnkfafnfjpliaaW.PrintMore
attribute [local go_sem] max2_int min2_int max_two min_two max_three min_three max_four min_four   -- for this text's walks alone
set_option linter.unusedVariables false
set_option linter.unusedSimpArgs false

/-! ### epactlaw12_RecordTells: function 3 -/
mutual
def epactlaw12_RecordTells.j0 : Nat → List (S44) → Int → List (S44) → Bool → Bool → List (S47) → Bool → Int → Option (Bool)
  | 0, _, _, _, _, _, _, _, _ => none
  | k + 1, x1, x2, x3, x9, x41, x331000, x331001, x331002 => if x41 = true then (some x9) else ((record_Records.f k x331000 x331001 x331002).bind fun bt333 => ((epactref12_Records.f k x331000 x331001 x331002).bind fun bt337 => ((record_Check.f k x1).bind fun bt341 => ((epactref12_Check.f k x1).bind fun bt343 => ((epactref12_Same.f k bt333.1 bt337.1).bind fun t345 => (if t345 = true then (if (bt333.2 != bt337.2) = true then (epactlaw12_RecordTells.j1 k x1 x2 x9 true) else (if bt341.1 = bt343.1 then (if bt341.2 = bt343.2 then ((record_Right.f k x1).bind fun t346 => ((epactref12_Right.f k x1).bind fun t347 => (if (t346 != t347) = true then (epactlaw12_RecordTells.j1 k x1 x2 x9 true) else ((record_Same.f k x1 x3).bind fun t348 => ((epactref12_Same.f k x1 x3).bind fun t349 => (epactlaw12_RecordTells.j1 k x1 x2 x9 (t348 != t349))))))) else (epactlaw12_RecordTells.j1 k x1 x2 x9 true)) else (epactlaw12_RecordTells.j1 k x1 x2 x9 true))) else (epactlaw12_RecordTells.j1 k x1 x2 x9 true)))))))
def epactlaw12_RecordTells.j1 : Nat → List (S44) → Int → Bool → Bool → Option (Bool)
  | 0, _, _, _, _ => none
  | k + 1, x1, x2, x9, x97 => if x97 = true then (none) else ((epactref12_Right.f k x1).bind fun t350 => (if t350 = true then ((record_Expiry.f k x1).bind fun bt351 => ((epactref12_Expiry.f x1).bind fun bt353 => ((record_Table.f k x1).bind fun bt355 => ((epactref12_Table.f k x1).bind fun bt362 => (if x9 = true then (if bt351.1 = bt353.1 then (if (bt351.2 == bt353.2) = true then ((epactref09_Same.f k bt355.1 bt355.2.1 bt355.2.2.1 bt362.1 bt362.2.1 bt362.2.2.1).bind fun t369 => (if t369 = true then (if (bt355.2.2.2 == bt362.2.2.2) = true then ((record_Sum.f k x1 x2).bind fun t370 => ((epactref12_Sum.f k x1 x2).bind fun t371 => (if t370 = t371 then ((record_Step.f k x1 x2).bind fun t372 => ((epactref12_Step.f k x1 x2).bind fun t373 => (some (t372 == t373)))) else (none)))) else (none)) else (none))) else (none)) else (none)) else (none)))))) else (some x9)))
end
def epactlaw12_RecordTells.f (k : Nat) (l0_0 : List (S47)) (a0_1 : Bool) (a0_2 : Int) (l1 : List (S44)) (a2 : Int) (l3 : List (S44)) : Option (Bool) := (epactlaw12_small.f k).bind fun t331 => ((epactlaw09_Few.f l0_0 a0_1 a0_2).bind fun t332 => (if t332 = true then (if (l1.length : Int) > 300 then (epactlaw12_RecordTells.j0 k l1 a2 l3 t331 true l0_0 a0_1 a0_2) else (epactlaw12_RecordTells.j0 k l1 a2 l3 t331 (decide ((l3.length : Int) > 300)) l0_0 a0_1 a0_2)) else (epactlaw12_RecordTells.j0 k l1 a2 l3 t331 true l0_0 a0_1 a0_2)))
theorem epactlaw12_RecordTells.mono_l : ∀ k, (∀ y0 y1 y2 y3 y4 y5 y6 y7, LeO (epactlaw12_RecordTells.j0 k y0 y1 y2 y3 y4 y5 y6 y7) (epactlaw12_RecordTells.j0 (k + 1) y0 y1 y2 y3 y4 y5 y6 y7)) ∧ (∀ y0 y1 y2 y3, LeO (epactlaw12_RecordTells.j1 k y0 y1 y2 y3) (epactlaw12_RecordTells.j1 (k + 1) y0 y1 y2 y3))
  | 0 => ⟨fun _ _ _ _ _ _ _ _ r h => by simp [epactlaw12_RecordTells.j0] at h, fun _ _ _ _ r h => by simp [epactlaw12_RecordTells.j1] at h⟩
  | k + 1 => by
    obtain ⟨ih0, ih1⟩ := epactlaw12_RecordTells.mono_l k
    refine ⟨?_, ?_⟩
    · intro y0 y1 y2 y3 y4 y5 y6 y7
      unfold epactlaw12_RecordTells.j0
      repeat' first
      | (with_reducible exact ih0 _ _ _ _ _ _ _ _)
      | (with_reducible exact ih1 _ _ _ _)
      | (with_reducible exact epactlaw12_small.mono _)
      | (with_reducible exact epactref09_Same.mono _ _ _ _ _ _ _)
      | (with_reducible exact epactref12_Check.mono _ _)
      | (with_reducible exact epactref12_Records.mono _ _ _ _)
      | (with_reducible exact epactref12_Right.mono _ _)
      | (with_reducible exact epactref12_Same.mono _ _ _)
      | (with_reducible exact epactref12_Step.mono _ _ _)
      | (with_reducible exact epactref12_Sum.mono _ _ _)
      | (with_reducible exact epactref12_Table.mono _ _)
      | (with_reducible exact record_Check.mono _ _)
      | (with_reducible exact record_Expiry.mono _ _)
      | (with_reducible exact record_Records.mono _ _ _ _)
      | (with_reducible exact record_Right.mono _ _)
      | (with_reducible exact record_Same.mono _ _ _)
      | (with_reducible exact record_Step.mono _ _ _)
      | (with_reducible exact record_Sum.mono _ _ _)
      | (with_reducible exact record_Table.mono _ _)
      | (with_reducible exact LeO.refl _)
      | (with_reducible exact LeO.none _)
      | (with_reducible refine LeO.ite ?_ ?_)
      | (with_reducible refine LeO.bind ?_ (fun _ => ?_))
      | exact ih0 _ _ _ _ _ _ _ _
      | exact ih1 _ _ _ _
      | exact epactlaw12_small.mono _
      | exact epactref09_Same.mono _ _ _ _ _ _ _
      | exact epactref12_Check.mono _ _
      | exact epactref12_Records.mono _ _ _ _
      | exact epactref12_Right.mono _ _
      | exact epactref12_Same.mono _ _ _
      | exact epactref12_Step.mono _ _ _
      | exact epactref12_Sum.mono _ _ _
      | exact epactref12_Table.mono _ _
      | exact record_Check.mono _ _
      | exact record_Expiry.mono _ _
      | exact record_Records.mono _ _ _ _
      | exact record_Right.mono _ _
      | exact record_Same.mono _ _ _
      | exact record_Step.mono _ _ _
      | exact record_Sum.mono _ _ _
      | exact record_Table.mono _ _
      | exact LeO.none _
      | refine LeO.ite ?_ ?_
      | refine LeO.bind ?_ (fun _ => ?_)
    · intro y0 y1 y2 y3
      unfold epactlaw12_RecordTells.j1
      repeat' first
      | (with_reducible exact ih0 _ _ _ _ _ _ _ _)
      | (with_reducible exact ih1 _ _ _ _)
      | (with_reducible exact epactlaw12_small.mono _)
      | (with_reducible exact epactref09_Same.mono _ _ _ _ _ _ _)
      | (with_reducible exact epactref12_Check.mono _ _)
      | (with_reducible exact epactref12_Records.mono _ _ _ _)
      | (with_reducible exact epactref12_Right.mono _ _)
      | (with_reducible exact epactref12_Same.mono _ _ _)
      | (with_reducible exact epactref12_Step.mono _ _ _)
      | (with_reducible exact epactref12_Sum.mono _ _ _)
      | (with_reducible exact epactref12_Table.mono _ _)
      | (with_reducible exact record_Check.mono _ _)
      | (with_reducible exact record_Expiry.mono _ _)
      | (with_reducible exact record_Records.mono _ _ _ _)
      | (with_reducible exact record_Right.mono _ _)
      | (with_reducible exact record_Same.mono _ _ _)
      | (with_reducible exact record_Step.mono _ _ _)
      | (with_reducible exact record_Sum.mono _ _ _)
      | (with_reducible exact record_Table.mono _ _)
      | (with_reducible exact LeO.refl _)
      | (with_reducible exact LeO.none _)
      | (with_reducible refine LeO.ite ?_ ?_)
      | (with_reducible refine LeO.bind ?_ (fun _ => ?_))
      | exact ih0 _ _ _ _ _ _ _ _
      | exact ih1 _ _ _ _
      | exact epactlaw12_small.mono _
      | exact epactref09_Same.mono _ _ _ _ _ _ _
      | exact epactref12_Check.mono _ _
      | exact epactref12_Records.mono _ _ _ _
      | exact epactref12_Right.mono _ _
      | exact epactref12_Same.mono _ _ _
      | exact epactref12_Step.mono _ _ _
      | exact epactref12_Sum.mono _ _ _
      | exact epactref12_Table.mono _ _
      | exact record_Check.mono _ _
      | exact record_Expiry.mono _ _
      | exact record_Records.mono _ _ _ _
      | exact record_Right.mono _ _
      | exact record_Same.mono _ _ _
      | exact record_Step.mono _ _ _
      | exact record_Sum.mono _ _ _
      | exact record_Table.mono _ _
      | exact LeO.none _
      | refine LeO.ite ?_ ?_
      | refine LeO.bind ?_ (fun _ => ?_)
theorem epactlaw12_RecordTells.mono : ∀ a0 a1 a2 a3 a4 a5 k, LeO (epactlaw12_RecordTells.f k a0 a1 a2 a3 a4 a5) (epactlaw12_RecordTells.f (k + 1) a0 a1 a2 a3 a4 a5) := by
  intro a0 a1 a2 a3 a4 a5 k
  obtain ⟨ih0, ih1⟩ := epactlaw12_RecordTells.mono_l k
  unfold epactlaw12_RecordTells.f
  repeat' first
      | (with_reducible exact ih0 _ _ _ _ _ _ _ _)
      | (with_reducible exact ih1 _ _ _ _)
      | (with_reducible exact epactlaw12_small.mono _)
      | (with_reducible exact epactref09_Same.mono _ _ _ _ _ _ _)
      | (with_reducible exact epactref12_Check.mono _ _)
      | (with_reducible exact epactref12_Records.mono _ _ _ _)
      | (with_reducible exact epactref12_Right.mono _ _)
      | (with_reducible exact epactref12_Same.mono _ _ _)
      | (with_reducible exact epactref12_Step.mono _ _ _)
      | (with_reducible exact epactref12_Sum.mono _ _ _)
      | (with_reducible exact epactref12_Table.mono _ _)
      | (with_reducible exact record_Check.mono _ _)
      | (with_reducible exact record_Expiry.mono _ _)
      | (with_reducible exact record_Records.mono _ _ _ _)
      | (with_reducible exact record_Right.mono _ _)
      | (with_reducible exact record_Same.mono _ _ _)
      | (with_reducible exact record_Step.mono _ _ _)
      | (with_reducible exact record_Sum.mono _ _ _)
      | (with_reducible exact record_Table.mono _ _)
      | (with_reducible exact LeO.refl _)
      | (with_reducible exact LeO.none _)
      | (with_reducible refine LeO.ite ?_ ?_)
      | (with_reducible refine LeO.bind ?_ (fun _ => ?_))
      | exact ih0 _ _ _ _ _ _ _ _
      | exact ih1 _ _ _ _
      | exact epactlaw12_small.mono _
      | exact epactref09_Same.mono _ _ _ _ _ _ _
      | exact epactref12_Check.mono _ _
      | exact epactref12_Records.mono _ _ _ _
      | exact epactref12_Right.mono _ _
      | exact epactref12_Same.mono _ _ _
      | exact epactref12_Step.mono _ _ _
      | exact epactref12_Sum.mono _ _ _
      | exact epactref12_Table.mono _ _
      | exact record_Check.mono _ _
      | exact record_Expiry.mono _ _
      | exact record_Records.mono _ _ _ _
      | exact record_Right.mono _ _
      | exact record_Same.mono _ _ _
      | exact record_Step.mono _ _ _
      | exact record_Sum.mono _ _ _
      | exact record_Table.mono _ _
      | exact LeO.none _
      | refine LeO.ite ?_ ?_
      | refine LeO.bind ?_ (fun _ => ?_)
set_option maxHeartbeats 8000000 in
set_option maxRecDepth 100000 in
theorem epactlaw12_RecordTells.calls (k : Nat) (A0_0 : Option Addr) (c0_0 : Nat) (l0_0 : List (S47)) (a0_1 : Bool) (a0_2 : Int) (A1 : Option Addr) (c1 : Nat) (l1 : List (S44)) (a2 : Int) (A3 : Option Addr) (c3 : Nat) (l3 : List (S44)) (r : Bool) (w : World) (hr0_0 : Kd.C k47 w A0_0 l0_0.length l0_0) (hc0_0 : l0_0.length ≤ c0_0) (hr1 : Kd.C k44 w A1 l1.length l1) (hc1 : l1.length ≤ c1) (hr3 : Kd.C k44 w A3 l3.length l3) (hc3 : l3.length ≤ c3) (h : epactlaw12_RecordTells.f k l0_0 a0_1 a0_2 l1 a2 l3 = some r) :
    Calls Try.prog 3 #[.agg #[.slice A0_0 l0_0.length c0_0, .bool a0_1, .int .i64 a0_2], .slice A1 l1.length c1, .int .i64 a2, .slice A3 l3.length c3] w fun e w' => e = .returned (.bool r) ∧ Below w.heap.size w w' := by
  have hu24 := Try.underlying24
  have HR0_0 := Aside0.mk hr0_0
  have HC0_0 := Aside0.mk hc0_0
  clear hr0_0 hc0_0
  have HR1 := Aside0.mk hr1
  have HC1 := Aside0.mk hc1
  clear hr1 hc1
  have HR3 := Aside0.mk hr3
  have HC3 := Aside0.mk hc3
  clear hr3 hc3
  have HB := Aside0.mk (Below.refl w.heap.size w)
  have H : ((epactlaw12_small.f k).bind fun t331 => ((epactlaw09_Few.f l0_0 a0_1 a0_2).bind fun t332 => (if t332 = true then (if (l1.length : Int) > 300 then (epactlaw12_RecordTells.j0 k l1 a2 l3 t331 true l0_0 a0_1 a0_2) else (epactlaw12_RecordTells.j0 k l1 a2 l3 t331 (decide ((l3.length : Int) > 300)) l0_0 a0_1 a0_2)) else (epactlaw12_RecordTells.j0 k l1 a2 l3 t331 true l0_0 a0_1 a0_2)))) = some r := h
  clear h
  replace H := Option.bind_eq_some_iff.mp H
  obtain ⟨t331, A50, H⟩ := H
  replace H : ((epactlaw09_Few.f l0_0 a0_1 a0_2).bind fun t332 => (if t332 = true then (if (l1.length : Int) > 300 then (epactlaw12_RecordTells.j0 k l1 a2 l3 t331 true l0_0 a0_1 a0_2) else (epactlaw12_RecordTells.j0 k l1 a2 l3 t331 (decide ((l3.length : Int) > 300)) l0_0 a0_1 a0_2)) else (epactlaw12_RecordTells.j0 k l1 a2 l3 t331 true l0_0 a0_1 a0_2))) = some r := H
  have A5 := Aside0.mk A50
  clear A50
  replace H := Option.bind_eq_some_iff.mp H
  obtain ⟨t332, A60, H⟩ := H
  replace H : (if t332 = true then (if (l1.length : Int) > 300 then (epactlaw12_RecordTells.j0 k l1 a2 l3 t331 true l0_0 a0_1 a0_2) else (epactlaw12_RecordTells.j0 k l1 a2 l3 t331 (decide ((l3.length : Int) > 300)) l0_0 a0_1 a0_2)) else (epactlaw12_RecordTells.j0 k l1 a2 l3 t331 true l0_0 a0_1 a0_2)) = some r := H
  have A6 := Aside0.mk A60
  clear A60
  have HC7 := Aside0.mk H
  clear H
  go_enter Try.func3, Try.ntmps3
  go_upto_region 3 with (first | ((with_reducible refine gate_dst (N := 4) rfl ?_); (try (refine gate_guard (by rfl) ?_; dsimp only)); refine box_event ?hg (N := 4) ?hd (cs := #[.slice A0_0 l0_0.length c0_0, .bool a0_1, .int .i64 a0_2]) (t := 24) ?hr ?_; (case hd => rfl); (case hg => rfl); (case hr => first | (go_simp; done) | (go_simp; rfl)); intro gb330 hg w8 hbox hb; have n0_ := Aside0.mk (below_step (by repeat (first | (with_reducible first | exact HB.out | apply below_alloc | apply pw_below_drewN | apply below_drew1) | exact HB.out)) hb); have n1_ := Aside0.mk (hbox); have n2_ := Aside0.mk ((by rw [hg]; exact (below_size (by repeat (first | (with_reducible first | exact HB.out | apply below_alloc | apply pw_below_drewN | apply below_drew1) | exact HB.out))) : w.heap.size ≤ gb330)); have n3_ := Aside0.mk ((by rw [hg]; exact (below_size (by repeat (first | (with_reducible first | exact HB.out | apply below_alloc | apply pw_below_drewN | apply below_drew1) | exact HB.out))) : w.heap.size ≤ gb330)); clear HB; have HB := n0_; have BK330 := n1_; have GW330 := n2_; have GE330 := n3_; clear n0_ n1_ n2_ n3_; clear hb hbox hg) | ((with_reducible refine gate_callee (f := 9) rfl ?_); refine goesL_ (some 27) rfl rfl Try.func9 (by kernel_rfl) rfl #[] rfl (by (try simp only [List.map_toArray, List.map_cons, List.map_nil]); first | done | rfl | (simp only [List.length_drop, List.length_take]; rfl)) ?_; (with_reducible refine (epactlaw12_small.calls k  t331 _ A5.out).mono ?_); rintro e w9 ⟨rfl, hb⟩; refine ⟨_, rfl, ?_⟩; have n0_ := Aside0.mk (blk_below (g := gb330) (o := .cells #[.slice A0_0 l0_0.length c0_0, .bool a0_1, .int .i64 a0_2] 24 (0, 0)) (by (with_reducible repeat (first | refine blk_drewN ?_ _ | refine blk_drew ?_ | refine blk_alloc ?_ _)); exact BK330.out) hb); have n1_ := Aside0.mk (below_step (by repeat (first | (with_reducible first | exact HB.out | apply below_alloc | apply pw_below_drewN | apply below_drew1 | refine below_set ?_ GE330.out) | exact HB.out)) hb); clear BK330; clear HB; have BK330 := n0_; have HB := n1_; clear n0_ n1_; (try clear hb); (try clear hb2); (try clear hk); (try clear hi); have hcz10_0 : w9.cell? ⟨gb330, 0, none⟩ = some (.slice A0_0 l0_0.length c0_0) := (blk_cell BK330.out 0).trans rfl; have hcz10_1 : w9.cell? ⟨gb330, 1, none⟩ = some (.bool a0_1) := (blk_cell BK330.out 1).trans rfl; have hcz10_2 : w9.cell? ⟨gb330, 2, none⟩ = some (.int .i64 a0_2) := (blk_cell BK330.out 2).trans rfl; have hfz10_0 := blk_frozen BK330.out 0; have hfz10_1 := blk_frozen BK330.out 1; have hfz10_2 := blk_frozen BK330.out 2) | ((with_reducible refine gate_callee (f := 10) rfl ?_); refine goesL_ (some 29) rfl rfl Try.func10 (by kernel_rfl) rfl #[.agg #[.slice A0_0 l0_0.length c0_0, .bool a0_1, .int .i64 a0_2]] rfl (by (try simp only [List.map_toArray, List.map_cons, List.map_nil]); first | done | rfl | (simp only [List.length_drop, List.length_take]; rfl)) ?_; (with_reducible refine (epactlaw09_Few.calls _ _ l0_0 a0_1 a0_2 t332 _ ?side1 ?side2 A6.out).mono ?_); (case side1 => repeat (first | exact (Kd.C_below HR0_0.out HB.out) | (with_reducible refine Kd.C_alloc ?_ _) | (with_reducible refine Kd.C_drewN ?_ _) | (with_reducible refine Kd.C_drew ?_))); (case side2 => exact HC0_0.out); rintro e w11 ⟨rfl, hb⟩; refine ⟨_, rfl, ?_⟩; have n0_ := Aside0.mk (blk_below (g := gb330) (o := .cells #[.slice A0_0 l0_0.length c0_0, .bool a0_1, .int .i64 a0_2] 24 (0, 0)) (by (with_reducible repeat (first | refine blk_drewN ?_ _ | refine blk_drew ?_ | refine blk_alloc ?_ _)); exact BK330.out) hb); have n1_ := Aside0.mk (below_step (by repeat (first | (with_reducible first | exact HB.out | apply below_alloc | apply pw_below_drewN | apply below_drew1 | refine below_set ?_ GE330.out) | exact HB.out)) hb); clear BK330; clear HB; have BK330 := n0_; have HB := n1_; clear n0_ n1_; (try clear hb); (try clear hb2); (try clear hk); (try clear hi)))
  (try simp only [Act.put, List.setIfInBounds_toArray, List.set_cons_zero, List.set_cons_succ])
  go_cut [41] (fun v41 wc => ∃ (kq : Nat) (x41_6 : Bool), v41 = .bool x41_6 ∧ Aside0 (epactlaw12_RecordTells.j0 kq l1 a2 l3 t331 x41_6 l0_0 a0_1 a0_2 = some r) ∧ Aside0 (kq ≤ k) ∧ Aside0 (wc.heap[gb330]? = some (.cells #[(.slice A0_0 l0_0.length c0_0), .bool a0_1, .int .i64 a0_2] 24 (0, 0))) ∧ Aside0 (Below w.heap.size w wc))
  case first =>
    have H := HC7.out
    clear HC7
    by_cases c12 : t332 = true
    · subst c12
      have H1 : (if (l1.length : Int) > 300 then (epactlaw12_RecordTells.j0 k l1 a2 l3 t331 true l0_0 a0_1 a0_2) else (epactlaw12_RecordTells.j0 k l1 a2 l3 t331 (decide ((l3.length : Int) > 300)) l0_0 a0_1 a0_2)) = some r := by rw [if_pos rfl] at H; exact H
      clear H
      have H := H1
      clear H1
      by_cases c13 : (l1.length : Int) > 300
      · rw [if_pos c13] at H
        have c13b0 : decide (300 < (l1.length : Int)) = true := decide_eq_true c13
        have c13b1 : decide (300 < l1.length) = true := decide_eq_true (by omega)
        clear c13
        (first | rw [c13b0] | (simp only [i64_w, i32_w]; rw [c13b0]) | skip)
        have H' := Aside0.mk H
        clear H
        go_wp2
        go_meet
        case rel => exact ⟨_, (true), (by first | rfl | (simp; done) | (simp [*]; done)), H', ⟨by first | omega | exact Nat.le_refl _⟩, ⟨by (with_reducible repeat (first | refine blk_drewN ?_ _ | refine blk_drew ?_ | refine blk_alloc ?_ _)); exact BK330.out⟩, ⟨by repeat (first | (with_reducible first | exact HB.out | apply below_alloc | apply pw_below_drewN | apply below_drew1 | refine below_set ?_ GE330.out) | exact HB.out)⟩⟩
      · rw [if_neg c13] at H
        have c13b0 : decide (300 < (l1.length : Int)) = false := decide_eq_false c13
        have c13b1 : decide (300 < l1.length) = false := decide_eq_false (by omega)
        clear c13
        (first | rw [c13b0] | (simp only [i64_w, i32_w]; rw [c13b0]) | skip)
        have H' := Aside0.mk H
        clear H
        go_wp2
        go_meet
        case rel => exact ⟨_, (decide ((l3.length : Int) > 300)), (by first | rfl | (simp; done) | (simp [*]; done)), H', ⟨by first | omega | exact Nat.le_refl _⟩, ⟨by (with_reducible repeat (first | refine blk_drewN ?_ _ | refine blk_drew ?_ | refine blk_alloc ?_ _)); exact BK330.out⟩, ⟨by repeat (first | (with_reducible first | exact HB.out | apply below_alloc | apply pw_below_drewN | apply below_drew1 | refine below_set ?_ GE330.out) | exact HB.out)⟩⟩
    · replace c12 := Bool.eq_false_iff.mpr c12
      subst c12
      have H1 : (epactlaw12_RecordTells.j0 k l1 a2 l3 t331 true l0_0 a0_1 a0_2) = some r := by rw [if_neg (show ¬ (false = true) by decide)] at H; exact H
      clear H
      have H := H1
      clear H1
      have H' := Aside0.mk H
      clear H
      go_wp2
      go_meet
      case rel => exact ⟨_, (true), (by first | rfl | (simp; done) | (simp [*]; done)), H', ⟨by first | omega | exact Nat.le_refl _⟩, ⟨by (with_reducible repeat (first | refine blk_drewN ?_ _ | refine blk_drew ?_ | refine blk_alloc ?_ _)); exact BK330.out⟩, ⟨by repeat (first | (with_reducible first | exact HB.out | apply below_alloc | apply pw_below_drewN | apply below_drew1 | refine below_set ?_ GE330.out) | exact HB.out)⟩⟩
  case rest =>
    clear HC7
    try clear c1
    try clear p2
    try clear c3
    try clear c9
    try clear c10
    try clear c12
    try clear c13
    try clear c13b0
    try clear c13b1
    try clear hcz10_0
    try clear hcz10_1
    try clear hcz10_2
    try clear hfz10_0
    try clear hfz10_1
    try clear hfz10_2
    obtain ⟨kq, x41_6, rfl, HA, HJ6, BK330, HB⟩ := hcut
    cases kq with
    | zero => exact absurd HA.out (by simp [epactlaw12_RecordTells.j0])
    | succ kj6 =>
      have H := HA.out
      clear HA
      simp only [epactlaw12_RecordTells.j0] at H
      by_cases c14 : x41_6 = true
      · subst c14
        have H1 : (some t331) = some r := by rw [if_pos rfl] at H; exact H
        clear H
        have H := H1
        clear H1
        obtain rfl := Option.some.inj H
        go_wp2
        go_ret
        exact ⟨by first | rfl | (simp [errW_none, errW_some] <;> rfl) | (simp [*, errW_none, errW_some] <;> rfl), by repeat (first | (with_reducible first | exact HB.out | apply below_alloc | apply pw_below_drewN | apply below_drew1 | refine below_set ?_ GE330.out) | exact HB.out)⟩
      · replace c14 := Bool.eq_false_iff.mpr c14
        subst c14
        have H1 : ((record_Records.f kj6 l0_0 a0_1 a0_2).bind fun bt333 => ((epactref12_Records.f kj6 l0_0 a0_1 a0_2).bind fun bt337 => ((record_Check.f kj6 l1).bind fun bt341 => ((epactref12_Check.f kj6 l1).bind fun bt343 => ((epactref12_Same.f kj6 bt333.1 bt337.1).bind fun t345 => (if t345 = true then (if (bt333.2 != bt337.2) = true then (epactlaw12_RecordTells.j1 kj6 l1 a2 t331 true) else (if bt341.1 = bt343.1 then (if bt341.2 = bt343.2 then ((record_Right.f kj6 l1).bind fun t346 => ((epactref12_Right.f kj6 l1).bind fun t347 => (if (t346 != t347) = true then (epactlaw12_RecordTells.j1 kj6 l1 a2 t331 true) else ((record_Same.f kj6 l1 l3).bind fun t348 => ((epactref12_Same.f kj6 l1 l3).bind fun t349 => (epactlaw12_RecordTells.j1 kj6 l1 a2 t331 (t348 != t349))))))) else (epactlaw12_RecordTells.j1 kj6 l1 a2 t331 true)) else (epactlaw12_RecordTells.j1 kj6 l1 a2 t331 true))) else (epactlaw12_RecordTells.j1 kj6 l1 a2 t331 true))))))) = some r := by rw [if_neg (show ¬ (false = true) by decide)] at H; exact H
        clear H
        have H := H1
        clear H1
        replace H := Option.bind_eq_some_iff.mp H
        obtain ⟨⟨t333, t336⟩, A150, H⟩ := H
        replace H : ((epactref12_Records.f kj6 l0_0 a0_1 a0_2).bind fun bt337 => ((record_Check.f kj6 l1).bind fun bt341 => ((epactref12_Check.f kj6 l1).bind fun bt343 => ((epactref12_Same.f kj6 t333 bt337.1).bind fun t345 => (if t345 = true then (if (t336 != bt337.2) = true then (epactlaw12_RecordTells.j1 kj6 l1 a2 t331 true) else (if bt341.1 = bt343.1 then (if bt341.2 = bt343.2 then ((record_Right.f kj6 l1).bind fun t346 => ((epactref12_Right.f kj6 l1).bind fun t347 => (if (t346 != t347) = true then (epactlaw12_RecordTells.j1 kj6 l1 a2 t331 true) else ((record_Same.f kj6 l1 l3).bind fun t348 => ((epactref12_Same.f kj6 l1 l3).bind fun t349 => (epactlaw12_RecordTells.j1 kj6 l1 a2 t331 (t348 != t349))))))) else (epactlaw12_RecordTells.j1 kj6 l1 a2 t331 true)) else (epactlaw12_RecordTells.j1 kj6 l1 a2 t331 true))) else (epactlaw12_RecordTells.j1 kj6 l1 a2 t331 true)))))) = some r := H
        have A15 := Aside0.mk A150
        clear A150
        replace H := Option.bind_eq_some_iff.mp H
        obtain ⟨⟨t337, t340⟩, A160, H⟩ := H
        replace H : ((record_Check.f kj6 l1).bind fun bt341 => ((epactref12_Check.f kj6 l1).bind fun bt343 => ((epactref12_Same.f kj6 t333 t337).bind fun t345 => (if t345 = true then (if (t336 != t340) = true then (epactlaw12_RecordTells.j1 kj6 l1 a2 t331 true) else (if bt341.1 = bt343.1 then (if bt341.2 = bt343.2 then ((record_Right.f kj6 l1).bind fun t346 => ((epactref12_Right.f kj6 l1).bind fun t347 => (if (t346 != t347) = true then (epactlaw12_RecordTells.j1 kj6 l1 a2 t331 true) else ((record_Same.f kj6 l1 l3).bind fun t348 => ((epactref12_Same.f kj6 l1 l3).bind fun t349 => (epactlaw12_RecordTells.j1 kj6 l1 a2 t331 (t348 != t349))))))) else (epactlaw12_RecordTells.j1 kj6 l1 a2 t331 true)) else (epactlaw12_RecordTells.j1 kj6 l1 a2 t331 true))) else (epactlaw12_RecordTells.j1 kj6 l1 a2 t331 true))))) = some r := H
        have A16 := Aside0.mk A160
        clear A160
        replace H := Option.bind_eq_some_iff.mp H
        obtain ⟨⟨t341, t342⟩, A170, H⟩ := H
        replace H : ((epactref12_Check.f kj6 l1).bind fun bt343 => ((epactref12_Same.f kj6 t333 t337).bind fun t345 => (if t345 = true then (if (t336 != t340) = true then (epactlaw12_RecordTells.j1 kj6 l1 a2 t331 true) else (if t341 = bt343.1 then (if t342 = bt343.2 then ((record_Right.f kj6 l1).bind fun t346 => ((epactref12_Right.f kj6 l1).bind fun t347 => (if (t346 != t347) = true then (epactlaw12_RecordTells.j1 kj6 l1 a2 t331 true) else ((record_Same.f kj6 l1 l3).bind fun t348 => ((epactref12_Same.f kj6 l1 l3).bind fun t349 => (epactlaw12_RecordTells.j1 kj6 l1 a2 t331 (t348 != t349))))))) else (epactlaw12_RecordTells.j1 kj6 l1 a2 t331 true)) else (epactlaw12_RecordTells.j1 kj6 l1 a2 t331 true))) else (epactlaw12_RecordTells.j1 kj6 l1 a2 t331 true)))) = some r := H
        have A17 := Aside0.mk A170
        clear A170
        replace H := Option.bind_eq_some_iff.mp H
        obtain ⟨⟨t343, t344⟩, A180, H⟩ := H
        replace H : ((epactref12_Same.f kj6 t333 t337).bind fun t345 => (if t345 = true then (if (t336 != t340) = true then (epactlaw12_RecordTells.j1 kj6 l1 a2 t331 true) else (if t341 = t343 then (if t342 = t344 then ((record_Right.f kj6 l1).bind fun t346 => ((epactref12_Right.f kj6 l1).bind fun t347 => (if (t346 != t347) = true then (epactlaw12_RecordTells.j1 kj6 l1 a2 t331 true) else ((record_Same.f kj6 l1 l3).bind fun t348 => ((epactref12_Same.f kj6 l1 l3).bind fun t349 => (epactlaw12_RecordTells.j1 kj6 l1 a2 t331 (t348 != t349))))))) else (epactlaw12_RecordTells.j1 kj6 l1 a2 t331 true)) else (epactlaw12_RecordTells.j1 kj6 l1 a2 t331 true))) else (epactlaw12_RecordTells.j1 kj6 l1 a2 t331 true))) = some r := H
        have A18 := Aside0.mk A180
        clear A180
        have HC19 := Aside0.mk H
        clear H
        have hcz20_0 : wc.cell? ⟨gb330, 0, none⟩ = some (.slice A0_0 l0_0.length c0_0) := (blk_cell BK330.out 0).trans rfl
        have hcz20_1 : wc.cell? ⟨gb330, 1, none⟩ = some (.bool a0_1) := (blk_cell BK330.out 1).trans rfl
        have hcz20_2 : wc.cell? ⟨gb330, 2, none⟩ = some (.int .i64 a0_2) := (blk_cell BK330.out 2).trans rfl
        have hfz20_0 := blk_frozen BK330.out 0
        have hfz20_1 := blk_frozen BK330.out 1
        have hfz20_2 := blk_frozen BK330.out 2
        go_upto_region 9 with (first | ((with_reducible refine gate_callee (f := 11) rfl ?_); refine goesL_ (some 45) rfl rfl Try.func11 (by kernel_rfl) rfl #[.agg #[.slice A0_0 l0_0.length c0_0, .bool a0_1, .int .i64 a0_2]] rfl (by (try simp only [List.map_toArray, List.map_cons, List.map_nil]); first | done | rfl | (simp only [List.length_drop, List.length_take]; rfl)) ?_; (with_reducible refine (record_Records.calls kj6 _ _ l0_0 a0_1 a0_2 t333 t336 _ ?side1 ?side2 A15.out).mono ?_); (case side1 => repeat (first | exact (Kd.C_below HR0_0.out HB.out) | (with_reducible refine Kd.C_alloc ?_ _) | (with_reducible refine Kd.C_drewN ?_ _) | (with_reducible refine Kd.C_drew ?_))); (case side2 => exact HC0_0.out); rintro e w21 ⟨v334, rfl, ho0, hb⟩; refine ⟨_, rfl, ?_⟩; have n0_ := Aside0.mk (Kd.R_lower ho0 (below_size (by repeat (first | (with_reducible first | exact HB.out | apply below_alloc | apply pw_below_drewN | apply below_drew1 | refine below_set ?_ GE330.out) | exact HB.out)))); have n1_ := Aside0.mk (blk_below (g := gb330) (o := .cells #[.slice A0_0 l0_0.length c0_0, .bool a0_1, .int .i64 a0_2] 24 (0, 0)) (by (with_reducible repeat (first | refine blk_drewN ?_ _ | refine blk_drew ?_ | refine blk_alloc ?_ _)); exact BK330.out) hb); have n2_ := Aside0.mk (below_step (by repeat (first | (with_reducible first | exact HB.out | apply below_alloc | apply pw_below_drewN | apply below_drew1 | refine below_set ?_ GE330.out) | exact HB.out)) hb); clear BK330; clear HB; have HO335 := n0_; have BK330 := n1_; have HB := n2_; clear n0_ n1_ n2_; (try clear hb); (try clear hb2); (try clear hk); (try clear hi); (try clear ho0); have hcz22_0 : w21.cell? ⟨gb330, 0, none⟩ = some (.slice A0_0 l0_0.length c0_0) := (blk_cell BK330.out 0).trans rfl; have hcz22_1 : w21.cell? ⟨gb330, 1, none⟩ = some (.bool a0_1) := (blk_cell BK330.out 1).trans rfl; have hcz22_2 : w21.cell? ⟨gb330, 2, none⟩ = some (.int .i64 a0_2) := (blk_cell BK330.out 2).trans rfl; have hfz22_0 := blk_frozen BK330.out 0; have hfz22_1 := blk_frozen BK330.out 1; have hfz22_2 := blk_frozen BK330.out 2) | ((with_reducible refine gate_callee (f := 12) rfl ?_); refine goesL_ (some 50) rfl rfl Try.func12 (by kernel_rfl) rfl #[.agg #[.slice A0_0 l0_0.length c0_0, .bool a0_1, .int .i64 a0_2]] rfl (by (try simp only [List.map_toArray, List.map_cons, List.map_nil]); first | done | rfl | (simp only [List.length_drop, List.length_take]; rfl)) ?_; (with_reducible refine (epactref12_Records.calls kj6 _ _ l0_0 a0_1 a0_2 t337 t340 _ ?side1 ?side2 A16.out).mono ?_); (case side1 => repeat (first | exact (Kd.C_below HR0_0.out HB.out) | (with_reducible refine Kd.C_alloc ?_ _) | (with_reducible refine Kd.C_drewN ?_ _) | (with_reducible refine Kd.C_drew ?_))); (case side2 => exact HC0_0.out); rintro e w23 ⟨v338, rfl, ho0, hb⟩; refine ⟨_, rfl, ?_⟩; have n0_ := Aside0.mk (Kd.R_elder' (by (with_reducible repeat (first | apply Kd.R_alloc | apply Kd.R_drewN | apply Kd.R_drew)); exact HO335.out) (Kd.R_base ho0) hb); have n1_ := Aside0.mk (Kd.R_lower (Kd.R_new' ho0 (Kd.R_lt (by (with_reducible repeat (first | apply Kd.R_alloc | apply Kd.R_drewN | apply Kd.R_drew)); exact HO335.out))) (below_size (by repeat (first | (with_reducible first | exact HB.out | apply below_alloc | apply pw_below_drewN | apply below_drew1 | refine below_set ?_ GE330.out) | exact HB.out)))); have n2_ := Aside0.mk (blk_below (g := gb330) (o := .cells #[.slice A0_0 l0_0.length c0_0, .bool a0_1, .int .i64 a0_2] 24 (0, 0)) (by (with_reducible repeat (first | refine blk_drewN ?_ _ | refine blk_drew ?_ | refine blk_alloc ?_ _)); exact BK330.out) hb); have n3_ := Aside0.mk (below_step (by repeat (first | (with_reducible first | exact HB.out | apply below_alloc | apply pw_below_drewN | apply below_drew1 | refine below_set ?_ GE330.out) | exact HB.out)) hb); clear HO335; clear BK330; clear HB; have HO335 := n0_; have HO339 := n1_; have BK330 := n2_; have HB := n3_; clear n0_ n1_ n2_ n3_; (try clear hb); (try clear hb2); (try clear hk); (try clear hi); (try clear ho0)) | ((with_reducible refine gate_callee (f := 13) rfl ?_); refine goesL_ (some 55) rfl rfl Try.func13 (by kernel_rfl) rfl #[.slice A1 l1.length c1] rfl (by (try simp only [List.map_toArray, List.map_cons, List.map_nil]); first | done | rfl | (simp only [List.length_drop, List.length_take]; rfl)) ?_; (with_reducible refine (record_Check.calls kj6 _ _ l1 t341 t342 _ ?side1 ?side2 A17.out).mono ?_); (case side1 => repeat (first | exact (Kd.C_below HR1.out HB.out) | (with_reducible refine Kd.C_alloc ?_ _) | (with_reducible refine Kd.C_drewN ?_ _) | (with_reducible refine Kd.C_drew ?_))); (case side2 => exact HC1.out); rintro e w24 ⟨rfl, hb⟩; refine ⟨_, rfl, ?_⟩; have n0_ := Aside0.mk (Kd.R_below (by (with_reducible repeat (first | apply Kd.R_alloc | apply Kd.R_drewN | apply Kd.R_drew)); exact HO335.out) hb); have n1_ := Aside0.mk (Kd.R_below (by (with_reducible repeat (first | apply Kd.R_alloc | apply Kd.R_drewN | apply Kd.R_drew)); exact HO339.out) hb); have n2_ := Aside0.mk (blk_below (g := gb330) (o := .cells #[.slice A0_0 l0_0.length c0_0, .bool a0_1, .int .i64 a0_2] 24 (0, 0)) (by (with_reducible repeat (first | refine blk_drewN ?_ _ | refine blk_drew ?_ | refine blk_alloc ?_ _)); exact BK330.out) hb); have n3_ := Aside0.mk (below_step (by repeat (first | (with_reducible first | exact HB.out | apply below_alloc | apply pw_below_drewN | apply below_drew1 | refine below_set ?_ GE330.out) | exact HB.out)) hb); clear HO335; clear HO339; clear BK330; clear HB; have HO335 := n0_; have HO339 := n1_; have BK330 := n2_; have HB := n3_; clear n0_ n1_ n2_ n3_; (try clear hb); (try clear hb2); (try clear hk); (try clear hi)) | ((with_reducible refine gate_callee (f := 14) rfl ?_); refine goesL_ (some 60) rfl rfl Try.func14 (by kernel_rfl) rfl #[.slice A1 l1.length c1] rfl (by (try simp only [List.map_toArray, List.map_cons, List.map_nil]); first | done | rfl | (simp only [List.length_drop, List.length_take]; rfl)) ?_; (with_reducible refine (epactref12_Check.calls kj6 _ _ l1 t343 t344 _ ?side1 ?side2 A18.out).mono ?_); (case side1 => repeat (first | exact (Kd.C_below HR1.out HB.out) | (with_reducible refine Kd.C_alloc ?_ _) | (with_reducible refine Kd.C_drewN ?_ _) | (with_reducible refine Kd.C_drew ?_))); (case side2 => exact HC1.out); rintro e w' ⟨rfl, ⟨nd, rfl⟩⟩; refine ⟨_, rfl, ?_⟩))
        (try simp only [Act.put, List.setIfInBounds_toArray, List.set_cons_zero, List.set_cons_succ])
        go_cut [97] (fun v97 wc => ∃ (kq : Nat) (x97_18 : Bool), v97 = .bool x97_18 ∧ Aside0 (epactlaw12_RecordTells.j1 kq l1 a2 t331 x97_18 = some r) ∧ Aside0 (kq ≤ kj6) ∧ Aside0 (wc.heap[gb330]? = some (.cells #[(.slice A0_0 l0_0.length c0_0), .bool a0_1, .int .i64 a0_2] 24 (0, 0))) ∧ Aside0 (Below w.heap.size w wc))
        case first =>
          have H := HC19.out
          clear HC19
          replace H := Option.bind_eq_some_iff.mp H
          obtain ⟨t345, A250, H⟩ := H
          replace H : (if t345 = true then (if (t336 != t340) = true then (epactlaw12_RecordTells.j1 kj6 l1 a2 t331 true) else (if t341 = t343 then (if t342 = t344 then ((record_Right.f kj6 l1).bind fun t346 => ((epactref12_Right.f kj6 l1).bind fun t347 => (if (t346 != t347) = true then (epactlaw12_RecordTells.j1 kj6 l1 a2 t331 true) else ((record_Same.f kj6 l1 l3).bind fun t348 => ((epactref12_Same.f kj6 l1 l3).bind fun t349 => (epactlaw12_RecordTells.j1 kj6 l1 a2 t331 (t348 != t349))))))) else (epactlaw12_RecordTells.j1 kj6 l1 a2 t331 true)) else (epactlaw12_RecordTells.j1 kj6 l1 a2 t331 true))) else (epactlaw12_RecordTells.j1 kj6 l1 a2 t331 true)) = some r := H
          have A25 := Aside0.mk A250
          clear A250
          by_cases c26 : t345 = true
          · subst c26
            have H1 : (if (t336 != t340) = true then (epactlaw12_RecordTells.j1 kj6 l1 a2 t331 true) else (if t341 = t343 then (if t342 = t344 then ((record_Right.f kj6 l1).bind fun t346 => ((epactref12_Right.f kj6 l1).bind fun t347 => (if (t346 != t347) = true then (epactlaw12_RecordTells.j1 kj6 l1 a2 t331 true) else ((record_Same.f kj6 l1 l3).bind fun t348 => ((epactref12_Same.f kj6 l1 l3).bind fun t349 => (epactlaw12_RecordTells.j1 kj6 l1 a2 t331 (t348 != t349))))))) else (epactlaw12_RecordTells.j1 kj6 l1 a2 t331 true)) else (epactlaw12_RecordTells.j1 kj6 l1 a2 t331 true))) = some r := by rw [if_pos rfl] at H; exact H
            clear H
            have H := H1
            clear H1
            by_cases c27 : (t336 != t340) = true
            · rw [if_pos c27] at H
              have c27b0 : (t336 != t340) = true := c27
              (try (have c27b1 : decide (t336 = t340) = false := by first | (simp; done) | (simp at c27; done) | simpa using c27))
              (try (have c27b2 : (t336 == t340) = false := by first | (simp; done) | (simp at c27; done) | simpa using c27))
              (try (have c27b3 : ¬ (t336 = t340) := by first | (simp; done) | (simp at c27; done) | simpa using c27))
              clear c27
              (first | rw [c27b0] | (simp only [i64_w, i32_w]; rw [c27b0]) | skip)
              have H' := Aside0.mk H
              clear H
              obtain ⟨Ao28, co28, eo28⟩ := Kd.R_slice HO335.out
              subst eo28
              obtain ⟨Ao29, co29, eo29⟩ := Kd.R_slice HO339.out
              subst eo29
              go_wp2_with (first | ((with_reducible refine gate_callee (f := 15) rfl ?_); refine goesL_ (some 65) rfl rfl Try.func15 (by kernel_rfl) rfl #[.slice Ao28 t333.length co28, .slice Ao29 t337.length co29] rfl (by (try simp only [List.map_toArray, List.map_cons, List.map_nil]); first | done | rfl | (simp only [List.length_drop, List.length_take]; rfl)) ?_; (with_reducible refine (epactref12_Same.calls kj6 _ _ t333 _ _ t337 true _ ?side1 ?side2 ?side3 ?side4 A25.out).mono ?_); (case side1 => repeat (first | exact (Kd.R_reads' HO335.out).2.2 | (with_reducible refine Kd.C_alloc ?_ _) | (with_reducible refine Kd.C_drewN ?_ _) | (with_reducible refine Kd.C_drew ?_))); (case side2 => exact (Kd.R_reads' HO335.out).2.1); (case side3 => repeat (first | exact (Kd.R_reads' HO339.out).2.2 | (with_reducible refine Kd.C_alloc ?_ _) | (with_reducible refine Kd.C_drewN ?_ _) | (with_reducible refine Kd.C_drew ?_))); (case side4 => exact (Kd.R_reads' HO339.out).2.1); rintro e w' ⟨rfl, ⟨nd, rfl⟩⟩; refine ⟨_, rfl, ?_⟩))
              go_meet
              case rel => exact ⟨_, (true), (by first | rfl | (simp; done) | (simp [*]; done)), H', ⟨by have := HJ6.out; first | omega | exact Nat.le_refl _⟩, ⟨by (with_reducible repeat (first | refine blk_drewN ?_ _ | refine blk_drew ?_ | refine blk_alloc ?_ _)); exact BK330.out⟩, ⟨by repeat (first | (with_reducible first | exact HB.out | apply below_alloc | apply pw_below_drewN | apply below_drew1 | refine below_set ?_ GE330.out) | exact HB.out)⟩⟩
            · rw [if_neg c27] at H
              have c27b0 : (t336 != t340) = false := by first | (simp; done) | (simp at c27; done) | simpa using c27
              (try (have c27b1 : decide (t336 = t340) = true := by first | (simp; done) | (simp at c27; done) | simpa using c27))
              (try (have c27b2 : (t336 == t340) = true := by first | (simp; done) | (simp at c27; done) | simpa using c27))
              clear c27
              (first | rw [c27b0] | (simp only [i64_w, i32_w]; rw [c27b0]) | skip)
              by_cases c30 : t341 = t343
              · rw [if_pos c30] at H
                have c30b0 : (t341 == t343) = true := beq_iff_eq.mpr c30
                have c30b1 : (t341 != t343) = false := bne_eq_false_iff_eq.mpr c30
                clear c30
                by_cases c31 : t342 = t344
                · rw [if_pos c31] at H
                  have c31b0 : (t342 == t344) = true := beq_iff_eq.mpr c31
                  have c31b1 : (t342 != t344) = false := bne_eq_false_iff_eq.mpr c31
                  clear c31
                  replace H := Option.bind_eq_some_iff.mp H
                  obtain ⟨t346, A320, H⟩ := H
                  replace H : ((epactref12_Right.f kj6 l1).bind fun t347 => (if (t346 != t347) = true then (epactlaw12_RecordTells.j1 kj6 l1 a2 t331 true) else ((record_Same.f kj6 l1 l3).bind fun t348 => ((epactref12_Same.f kj6 l1 l3).bind fun t349 => (epactlaw12_RecordTells.j1 kj6 l1 a2 t331 (t348 != t349)))))) = some r := H
                  have A32 := Aside0.mk A320
                  clear A320
                  replace H := Option.bind_eq_some_iff.mp H
                  obtain ⟨t347, A330, H⟩ := H
                  replace H : (if (t346 != t347) = true then (epactlaw12_RecordTells.j1 kj6 l1 a2 t331 true) else ((record_Same.f kj6 l1 l3).bind fun t348 => ((epactref12_Same.f kj6 l1 l3).bind fun t349 => (epactlaw12_RecordTells.j1 kj6 l1 a2 t331 (t348 != t349))))) = some r := H
                  have A33 := Aside0.mk A330
                  clear A330
                  by_cases c34 : (t346 != t347) = true
                  · rw [if_pos c34] at H
                    have c34b0 : (t346 != t347) = true := c34
                    (try (have c34b1 : decide (t346 = t347) = false := by first | (simp; done) | (simp at c34; done) | simpa using c34))
                    (try (have c34b2 : (t346 == t347) = false := by first | (simp; done) | (simp at c34; done) | simpa using c34))
                    (try (have c34b3 : ¬ (t346 = t347) := by first | (simp; done) | (simp at c34; done) | simpa using c34))
                    clear c34
                    have H' := Aside0.mk H
                    clear H
                    obtain ⟨Ao35, co35, eo35⟩ := Kd.R_slice HO335.out
                    subst eo35
                    obtain ⟨Ao36, co36, eo36⟩ := Kd.R_slice HO339.out
                    subst eo36
                    go_wp2_with (first | ((with_reducible refine gate_callee (f := 15) rfl ?_); refine goesL_ (some 65) rfl rfl Try.func15 (by kernel_rfl) rfl #[.slice Ao35 t333.length co35, .slice Ao36 t337.length co36] rfl (by (try simp only [List.map_toArray, List.map_cons, List.map_nil]); first | done | rfl | (simp only [List.length_drop, List.length_take]; rfl)) ?_; (with_reducible refine (epactref12_Same.calls kj6 _ _ t333 _ _ t337 true _ ?side1 ?side2 ?side3 ?side4 A25.out).mono ?_); (case side1 => repeat (first | exact (Kd.R_reads' HO335.out).2.2 | (with_reducible refine Kd.C_alloc ?_ _) | (with_reducible refine Kd.C_drewN ?_ _) | (with_reducible refine Kd.C_drew ?_))); (case side2 => exact (Kd.R_reads' HO335.out).2.1); (case side3 => repeat (first | exact (Kd.R_reads' HO339.out).2.2 | (with_reducible refine Kd.C_alloc ?_ _) | (with_reducible refine Kd.C_drewN ?_ _) | (with_reducible refine Kd.C_drew ?_))); (case side4 => exact (Kd.R_reads' HO339.out).2.1); rintro e w' ⟨rfl, ⟨nd, rfl⟩⟩; refine ⟨_, rfl, ?_⟩) | (go_at_call 16; (with_reducible refine (record_Right.calls kj6 _ _ l1 t346 _ ?side1 ?side2 A32.out).mono ?_); (case side1 => repeat (first | exact (Kd.C_below HR1.out (by repeat (first | (with_reducible first | exact HB.out | apply below_alloc | apply pw_below_drewN | apply below_drew1 | refine below_set ?_ GE330.out) | exact HB.out))) | (with_reducible refine Kd.C_alloc ?_ _) | (with_reducible refine Kd.C_drewN ?_ _) | (with_reducible refine Kd.C_drew ?_))); (case side2 => exact HC1.out); rintro e w37 ⟨rfl, hb⟩; have n0_ := Aside0.mk (Kd.R_below (by (with_reducible repeat (first | apply Kd.R_alloc | apply Kd.R_drewN | apply Kd.R_drew)); exact HO335.out) hb); have n1_ := Aside0.mk (Kd.R_below (by (with_reducible repeat (first | apply Kd.R_alloc | apply Kd.R_drewN | apply Kd.R_drew)); exact HO339.out) hb); have n2_ := Aside0.mk (blk_below (g := gb330) (o := .cells #[.slice A0_0 l0_0.length c0_0, .bool a0_1, .int .i64 a0_2] 24 (0, 0)) (by (with_reducible repeat (first | refine blk_drewN ?_ _ | refine blk_drew ?_ | refine blk_alloc ?_ _)); exact BK330.out) hb); have n3_ := Aside0.mk (below_step (by repeat (first | (with_reducible first | exact HB.out | apply below_alloc | apply pw_below_drewN | apply below_drew1 | refine below_set ?_ GE330.out) | exact HB.out)) hb); clear HO335; clear HO339; clear BK330; clear HB; have HO335 := n0_; have HO339 := n1_; have BK330 := n2_; have HB := n3_; clear n0_ n1_ n2_ n3_; (try clear hb); (try clear hb2); (try clear hk); (try clear hi)) | (go_at_call 17; (with_reducible refine (epactref12_Right.calls kj6 _ _ l1 t347 _ ?side1 ?side2 A33.out).mono ?_); (case side1 => repeat (first | exact (Kd.C_below HR1.out HB.out) | (with_reducible refine Kd.C_alloc ?_ _) | (with_reducible refine Kd.C_drewN ?_ _) | (with_reducible refine Kd.C_drew ?_))); (case side2 => exact HC1.out); rintro e w' ⟨rfl, ⟨nd, rfl⟩⟩))
                    go_meet
                    case rel => exact ⟨_, (true), (by first | rfl | (simp; done) | (simp [*]; done)), H', ⟨by have := HJ6.out; first | omega | exact Nat.le_refl _⟩, ⟨by (with_reducible repeat (first | refine blk_drewN ?_ _ | refine blk_drew ?_ | refine blk_alloc ?_ _)); exact BK330.out⟩, ⟨by repeat (first | (with_reducible first | exact HB.out | apply below_alloc | apply pw_below_drewN | apply below_drew1 | refine below_set ?_ GE330.out) | exact HB.out)⟩⟩
                  · rw [if_neg c34] at H
                    have c34b0 : (t346 != t347) = false := by first | (simp; done) | (simp at c34; done) | simpa using c34
                    (try (have c34b1 : decide (t346 = t347) = true := by first | (simp; done) | (simp at c34; done) | simpa using c34))
                    (try (have c34b2 : (t346 == t347) = true := by first | (simp; done) | (simp at c34; done) | simpa using c34))
                    clear c34
                    replace H := Option.bind_eq_some_iff.mp H
                    obtain ⟨t348, A380, H⟩ := H
                    replace H : ((epactref12_Same.f kj6 l1 l3).bind fun t349 => (epactlaw12_RecordTells.j1 kj6 l1 a2 t331 (t348 != t349))) = some r := H
                    have A38 := Aside0.mk A380
                    clear A380
                    replace H := Option.bind_eq_some_iff.mp H
                    obtain ⟨t349, A390, H⟩ := H
                    replace H : (epactlaw12_RecordTells.j1 kj6 l1 a2 t331 (t348 != t349)) = some r := H
                    have A39 := Aside0.mk A390
                    clear A390
                    have H' := Aside0.mk H
                    clear H
                    obtain ⟨Ao40, co40, eo40⟩ := Kd.R_slice HO335.out
                    subst eo40
                    obtain ⟨Ao41, co41, eo41⟩ := Kd.R_slice HO339.out
                    subst eo41
                    go_wp2_with (first | ((with_reducible refine gate_callee (f := 15) rfl ?_); refine goesL_ (some 65) rfl rfl Try.func15 (by kernel_rfl) rfl #[.slice Ao40 t333.length co40, .slice Ao41 t337.length co41] rfl (by (try simp only [List.map_toArray, List.map_cons, List.map_nil]); first | done | rfl | (simp only [List.length_drop, List.length_take]; rfl)) ?_; (with_reducible refine (epactref12_Same.calls kj6 _ _ t333 _ _ t337 true _ ?side1 ?side2 ?side3 ?side4 A25.out).mono ?_); (case side1 => repeat (first | exact (Kd.R_reads' HO335.out).2.2 | (with_reducible refine Kd.C_alloc ?_ _) | (with_reducible refine Kd.C_drewN ?_ _) | (with_reducible refine Kd.C_drew ?_))); (case side2 => exact (Kd.R_reads' HO335.out).2.1); (case side3 => repeat (first | exact (Kd.R_reads' HO339.out).2.2 | (with_reducible refine Kd.C_alloc ?_ _) | (with_reducible refine Kd.C_drewN ?_ _) | (with_reducible refine Kd.C_drew ?_))); (case side4 => exact (Kd.R_reads' HO339.out).2.1); rintro e w' ⟨rfl, ⟨nd, rfl⟩⟩; refine ⟨_, rfl, ?_⟩) | (go_at_call 16; (with_reducible refine (record_Right.calls kj6 _ _ l1 t346 _ ?side1 ?side2 A32.out).mono ?_); (case side1 => repeat (first | exact (Kd.C_below HR1.out (by repeat (first | (with_reducible first | exact HB.out | apply below_alloc | apply pw_below_drewN | apply below_drew1 | refine below_set ?_ GE330.out) | exact HB.out))) | (with_reducible refine Kd.C_alloc ?_ _) | (with_reducible refine Kd.C_drewN ?_ _) | (with_reducible refine Kd.C_drew ?_))); (case side2 => exact HC1.out); rintro e w42 ⟨rfl, hb⟩; have n0_ := Aside0.mk (Kd.R_below (by (with_reducible repeat (first | apply Kd.R_alloc | apply Kd.R_drewN | apply Kd.R_drew)); exact HO335.out) hb); have n1_ := Aside0.mk (Kd.R_below (by (with_reducible repeat (first | apply Kd.R_alloc | apply Kd.R_drewN | apply Kd.R_drew)); exact HO339.out) hb); have n2_ := Aside0.mk (blk_below (g := gb330) (o := .cells #[.slice A0_0 l0_0.length c0_0, .bool a0_1, .int .i64 a0_2] 24 (0, 0)) (by (with_reducible repeat (first | refine blk_drewN ?_ _ | refine blk_drew ?_ | refine blk_alloc ?_ _)); exact BK330.out) hb); have n3_ := Aside0.mk (below_step (by repeat (first | (with_reducible first | exact HB.out | apply below_alloc | apply pw_below_drewN | apply below_drew1 | refine below_set ?_ GE330.out) | exact HB.out)) hb); clear HO335; clear HO339; clear BK330; clear HB; have HO335 := n0_; have HO339 := n1_; have BK330 := n2_; have HB := n3_; clear n0_ n1_ n2_ n3_; (try clear hb); (try clear hb2); (try clear hk); (try clear hi)) | (go_at_call 17; (with_reducible refine (epactref12_Right.calls kj6 _ _ l1 t347 _ ?side1 ?side2 A33.out).mono ?_); (case side1 => repeat (first | exact (Kd.C_below HR1.out HB.out) | (with_reducible refine Kd.C_alloc ?_ _) | (with_reducible refine Kd.C_drewN ?_ _) | (with_reducible refine Kd.C_drew ?_))); (case side2 => exact HC1.out); rintro e w' ⟨rfl, ⟨nd, rfl⟩⟩) | (go_at_call 18; (with_reducible refine (record_Same.calls kj6 _ _ l1 _ _ l3 t348 _ ?side1 ?side2 ?side3 ?side4 A38.out).mono ?_); (case side1 => repeat (first | exact (Kd.C_below HR1.out (by repeat (first | (with_reducible first | exact HB.out | apply below_alloc | apply pw_below_drewN | apply below_drew1 | refine below_set ?_ GE330.out) | exact HB.out))) | (with_reducible refine Kd.C_alloc ?_ _) | (with_reducible refine Kd.C_drewN ?_ _) | (with_reducible refine Kd.C_drew ?_))); (case side2 => exact HC1.out); (case side3 => repeat (first | exact (Kd.C_below HR3.out (by repeat (first | (with_reducible first | exact HB.out | apply below_alloc | apply pw_below_drewN | apply below_drew1 | refine below_set ?_ GE330.out) | exact HB.out))) | (with_reducible refine Kd.C_alloc ?_ _) | (with_reducible refine Kd.C_drewN ?_ _) | (with_reducible refine Kd.C_drew ?_))); (case side4 => exact HC3.out); rintro e w' ⟨rfl, ⟨nd, rfl⟩⟩) | (go_at_call 15; (with_reducible refine (epactref12_Same.calls kj6 _ _ l1 _ _ l3 t349 _ ?side1 ?side2 ?side3 ?side4 A39.out).mono ?_); (case side1 => repeat (first | exact (Kd.C_below HR1.out (by repeat (first | (with_reducible first | exact HB.out | apply below_alloc | apply pw_below_drewN | apply below_drew1 | refine below_set ?_ GE330.out) | exact HB.out))) | (with_reducible refine Kd.C_alloc ?_ _) | (with_reducible refine Kd.C_drewN ?_ _) | (with_reducible refine Kd.C_drew ?_))); (case side2 => exact HC1.out); (case side3 => repeat (first | exact (Kd.C_below HR3.out (by repeat (first | (with_reducible first | exact HB.out | apply below_alloc | apply pw_below_drewN | apply below_drew1 | refine below_set ?_ GE330.out) | exact HB.out))) | (with_reducible refine Kd.C_alloc ?_ _) | (with_reducible refine Kd.C_drewN ?_ _) | (with_reducible refine Kd.C_drew ?_))); (case side4 => exact HC3.out); rintro e w' ⟨rfl, ⟨nd, rfl⟩⟩))
                    go_meet
                    case rel => exact ⟨_, ((t348 != t349)), (by first | rfl | (simp; done) | (simp [*]; done)), H', ⟨by have := HJ6.out; first | omega | exact Nat.le_refl _⟩, ⟨by (with_reducible repeat (first | refine blk_drewN ?_ _ | refine blk_drew ?_ | refine blk_alloc ?_ _)); exact BK330.out⟩, ⟨by repeat (first | (with_reducible first | exact HB.out | apply below_alloc | apply pw_below_drewN | apply below_drew1 | refine below_set ?_ GE330.out) | exact HB.out)⟩⟩
                · rw [if_neg c31] at H
                  have c31b0 : (t342 == t344) = false := beq_eq_false_iff_ne.mpr c31
                  have c31b1 : (t342 != t344) = true := bne_iff_ne.mpr c31
                  have H' := Aside0.mk H
                  clear H
                  obtain ⟨Ao43, co43, eo43⟩ := Kd.R_slice HO335.out
                  subst eo43
                  obtain ⟨Ao44, co44, eo44⟩ := Kd.R_slice HO339.out
                  subst eo44
                  go_wp2_with (first | ((with_reducible refine gate_callee (f := 15) rfl ?_); refine goesL_ (some 65) rfl rfl Try.func15 (by kernel_rfl) rfl #[.slice Ao43 t333.length co43, .slice Ao44 t337.length co44] rfl (by (try simp only [List.map_toArray, List.map_cons, List.map_nil]); first | done | rfl | (simp only [List.length_drop, List.length_take]; rfl)) ?_; (with_reducible refine (epactref12_Same.calls kj6 _ _ t333 _ _ t337 true _ ?side1 ?side2 ?side3 ?side4 A25.out).mono ?_); (case side1 => repeat (first | exact (Kd.R_reads' HO335.out).2.2 | (with_reducible refine Kd.C_alloc ?_ _) | (with_reducible refine Kd.C_drewN ?_ _) | (with_reducible refine Kd.C_drew ?_))); (case side2 => exact (Kd.R_reads' HO335.out).2.1); (case side3 => repeat (first | exact (Kd.R_reads' HO339.out).2.2 | (with_reducible refine Kd.C_alloc ?_ _) | (with_reducible refine Kd.C_drewN ?_ _) | (with_reducible refine Kd.C_drew ?_))); (case side4 => exact (Kd.R_reads' HO339.out).2.1); rintro e w' ⟨rfl, ⟨nd, rfl⟩⟩; refine ⟨_, rfl, ?_⟩))
                  go_meet
                  case rel => exact ⟨_, (true), (by first | rfl | (simp; done) | (simp [*]; done)), H', ⟨by have := HJ6.out; first | omega | exact Nat.le_refl _⟩, ⟨by (with_reducible repeat (first | refine blk_drewN ?_ _ | refine blk_drew ?_ | refine blk_alloc ?_ _)); exact BK330.out⟩, ⟨by repeat (first | (with_reducible first | exact HB.out | apply below_alloc | apply pw_below_drewN | apply below_drew1 | refine below_set ?_ GE330.out) | exact HB.out)⟩⟩
              · rw [if_neg c30] at H
                have c30b0 : (t341 == t343) = false := beq_eq_false_iff_ne.mpr c30
                have c30b1 : (t341 != t343) = true := bne_iff_ne.mpr c30
                have H' := Aside0.mk H
                clear H
                obtain ⟨Ao45, co45, eo45⟩ := Kd.R_slice HO335.out
                subst eo45
                obtain ⟨Ao46, co46, eo46⟩ := Kd.R_slice HO339.out
                subst eo46
                go_wp2_with (first | ((with_reducible refine gate_callee (f := 15) rfl ?_); refine goesL_ (some 65) rfl rfl Try.func15 (by kernel_rfl) rfl #[.slice Ao45 t333.length co45, .slice Ao46 t337.length co46] rfl (by (try simp only [List.map_toArray, List.map_cons, List.map_nil]); first | done | rfl | (simp only [List.length_drop, List.length_take]; rfl)) ?_; (with_reducible refine (epactref12_Same.calls kj6 _ _ t333 _ _ t337 true _ ?side1 ?side2 ?side3 ?side4 A25.out).mono ?_); (case side1 => repeat (first | exact (Kd.R_reads' HO335.out).2.2 | (with_reducible refine Kd.C_alloc ?_ _) | (with_reducible refine Kd.C_drewN ?_ _) | (with_reducible refine Kd.C_drew ?_))); (case side2 => exact (Kd.R_reads' HO335.out).2.1); (case side3 => repeat (first | exact (Kd.R_reads' HO339.out).2.2 | (with_reducible refine Kd.C_alloc ?_ _) | (with_reducible refine Kd.C_drewN ?_ _) | (with_reducible refine Kd.C_drew ?_))); (case side4 => exact (Kd.R_reads' HO339.out).2.1); rintro e w' ⟨rfl, ⟨nd, rfl⟩⟩; refine ⟨_, rfl, ?_⟩))
                go_meet
                case rel => exact ⟨_, (true), (by first | rfl | (simp; done) | (simp [*]; done)), H', ⟨by have := HJ6.out; first | omega | exact Nat.le_refl _⟩, ⟨by (with_reducible repeat (first | refine blk_drewN ?_ _ | refine blk_drew ?_ | refine blk_alloc ?_ _)); exact BK330.out⟩, ⟨by repeat (first | (with_reducible first | exact HB.out | apply below_alloc | apply pw_below_drewN | apply below_drew1 | refine below_set ?_ GE330.out) | exact HB.out)⟩⟩
          · replace c26 := Bool.eq_false_iff.mpr c26
            subst c26
            have H1 : (epactlaw12_RecordTells.j1 kj6 l1 a2 t331 true) = some r := by rw [if_neg (show ¬ (false = true) by decide)] at H; exact H
            clear H
            have H := H1
            clear H1
            have H' := Aside0.mk H
            clear H
            obtain ⟨Ao47, co47, eo47⟩ := Kd.R_slice HO335.out
            subst eo47
            obtain ⟨Ao48, co48, eo48⟩ := Kd.R_slice HO339.out
            subst eo48
            go_wp2_with (first | ((with_reducible refine gate_callee (f := 15) rfl ?_); refine goesL_ (some 65) rfl rfl Try.func15 (by kernel_rfl) rfl #[.slice Ao47 t333.length co47, .slice Ao48 t337.length co48] rfl (by (try simp only [List.map_toArray, List.map_cons, List.map_nil]); first | done | rfl | (simp only [List.length_drop, List.length_take]; rfl)) ?_; (with_reducible refine (epactref12_Same.calls kj6 _ _ t333 _ _ t337 false _ ?side1 ?side2 ?side3 ?side4 A25.out).mono ?_); (case side1 => repeat (first | exact (Kd.R_reads' HO335.out).2.2 | (with_reducible refine Kd.C_alloc ?_ _) | (with_reducible refine Kd.C_drewN ?_ _) | (with_reducible refine Kd.C_drew ?_))); (case side2 => exact (Kd.R_reads' HO335.out).2.1); (case side3 => repeat (first | exact (Kd.R_reads' HO339.out).2.2 | (with_reducible refine Kd.C_alloc ?_ _) | (with_reducible refine Kd.C_drewN ?_ _) | (with_reducible refine Kd.C_drew ?_))); (case side4 => exact (Kd.R_reads' HO339.out).2.1); rintro e w' ⟨rfl, ⟨nd, rfl⟩⟩; refine ⟨_, rfl, ?_⟩))
            go_meet
            case rel => exact ⟨_, (true), (by first | rfl | (simp; done) | (simp [*]; done)), H', ⟨by have := HJ6.out; first | omega | exact Nat.le_refl _⟩, ⟨by (with_reducible repeat (first | refine blk_drewN ?_ _ | refine blk_drew ?_ | refine blk_alloc ?_ _)); exact BK330.out⟩, ⟨by repeat (first | (with_reducible first | exact HB.out | apply below_alloc | apply pw_below_drewN | apply below_drew1 | refine below_set ?_ GE330.out) | exact HB.out)⟩⟩
        case rest =>
          clear HC19
          try clear c1
          try clear c2
          try clear p2
          try clear c3
          try clear c9
          try clear c10
          try clear c11
          try clear c12
          try clear c13
          try clear c13b0
          try clear c13b1
          try clear c14
          try clear c15
          try clear c26
          try clear c27
          try clear c27b0
          try clear c27b1
          try clear c27b2
          try clear c30
          try clear c30b0
          try clear c30b1
          try clear c31
          try clear c31b0
          try clear c31b1
          try clear c34
          try clear c34b0
          try clear c34b1
          try clear c34b2
          try clear hcz10_0
          try clear hcz10_1
          try clear hcz10_2
          try clear hcz20_0
          try clear hcz20_1
          try clear hcz20_2
          try clear hcz22_0
          try clear hcz22_1
          try clear hcz22_2
          try clear hfz10_0
          try clear hfz10_1
          try clear hfz10_2
          try clear hfz20_0
          try clear hfz20_1
          try clear hfz20_2
          try clear hfz22_0
          try clear hfz22_1
          try clear hfz22_2
          try clear p2
          obtain ⟨kq, x97_18, rfl, HA, HJ18, BK330, HB⟩ := hcut
          cases kq with
          | zero => exact absurd HA.out (by simp [epactlaw12_RecordTells.j1])
          | succ kj18 =>
            have H := HA.out
            clear HA
            simp only [epactlaw12_RecordTells.j1] at H
            by_cases c49 : x97_18 = true
            · subst c49
              have H1 : (none) = some r := by rw [if_pos rfl] at H; exact H
              clear H
              have H := H1
              clear H1
              exact absurd H (by simp)
            · replace c49 := Bool.eq_false_iff.mpr c49
              subst c49
              have H1 : ((epactref12_Right.f kj18 l1).bind fun t350 => (if t350 = true then ((record_Expiry.f kj18 l1).bind fun bt351 => ((epactref12_Expiry.f l1).bind fun bt353 => ((record_Table.f kj18 l1).bind fun bt355 => ((epactref12_Table.f kj18 l1).bind fun bt362 => (if t331 = true then (if bt351.1 = bt353.1 then (if (bt351.2 == bt353.2) = true then ((epactref09_Same.f kj18 bt355.1 bt355.2.1 bt355.2.2.1 bt362.1 bt362.2.1 bt362.2.2.1).bind fun t369 => (if t369 = true then (if (bt355.2.2.2 == bt362.2.2.2) = true then ((record_Sum.f kj18 l1 a2).bind fun t370 => ((epactref12_Sum.f kj18 l1 a2).bind fun t371 => (if t370 = t371 then ((record_Step.f kj18 l1 a2).bind fun t372 => ((epactref12_Step.f kj18 l1 a2).bind fun t373 => (some (t372 == t373)))) else (none)))) else (none)) else (none))) else (none)) else (none)) else (none)))))) else (some t331))) = some r := by rw [if_neg (show ¬ (false = true) by decide)] at H; exact H
              clear H
              have H := H1
              clear H1
              replace H := Option.bind_eq_some_iff.mp H
              obtain ⟨t350, A500, H⟩ := H
              replace H : (if t350 = true then ((record_Expiry.f kj18 l1).bind fun bt351 => ((epactref12_Expiry.f l1).bind fun bt353 => ((record_Table.f kj18 l1).bind fun bt355 => ((epactref12_Table.f kj18 l1).bind fun bt362 => (if t331 = true then (if bt351.1 = bt353.1 then (if (bt351.2 == bt353.2) = true then ((epactref09_Same.f kj18 bt355.1 bt355.2.1 bt355.2.2.1 bt362.1 bt362.2.1 bt362.2.2.1).bind fun t369 => (if t369 = true then (if (bt355.2.2.2 == bt362.2.2.2) = true then ((record_Sum.f kj18 l1 a2).bind fun t370 => ((epactref12_Sum.f kj18 l1 a2).bind fun t371 => (if t370 = t371 then ((record_Step.f kj18 l1 a2).bind fun t372 => ((epactref12_Step.f kj18 l1 a2).bind fun t373 => (some (t372 == t373)))) else (none)))) else (none)) else (none))) else (none)) else (none)) else (none)))))) else (some t331)) = some r := H
              have A50 := Aside0.mk A500
              clear A500
              by_cases c51 : t350 = true
              · subst c51
                have H1 : ((record_Expiry.f kj18 l1).bind fun bt351 => ((epactref12_Expiry.f l1).bind fun bt353 => ((record_Table.f kj18 l1).bind fun bt355 => ((epactref12_Table.f kj18 l1).bind fun bt362 => (if t331 = true then (if bt351.1 = bt353.1 then (if (bt351.2 == bt353.2) = true then ((epactref09_Same.f kj18 bt355.1 bt355.2.1 bt355.2.2.1 bt362.1 bt362.2.1 bt362.2.2.1).bind fun t369 => (if t369 = true then (if (bt355.2.2.2 == bt362.2.2.2) = true then ((record_Sum.f kj18 l1 a2).bind fun t370 => ((epactref12_Sum.f kj18 l1 a2).bind fun t371 => (if t370 = t371 then ((record_Step.f kj18 l1 a2).bind fun t372 => ((epactref12_Step.f kj18 l1 a2).bind fun t373 => (some (t372 == t373)))) else (none)))) else (none)) else (none))) else (none)) else (none)) else (none)))))) = some r := by rw [if_pos rfl] at H; exact H
                clear H
                have H := H1
                clear H1
                replace H := Option.bind_eq_some_iff.mp H
                obtain ⟨⟨t351, t352⟩, A520, H⟩ := H
                replace H : ((epactref12_Expiry.f l1).bind fun bt353 => ((record_Table.f kj18 l1).bind fun bt355 => ((epactref12_Table.f kj18 l1).bind fun bt362 => (if t331 = true then (if t351 = bt353.1 then (if (t352 == bt353.2) = true then ((epactref09_Same.f kj18 bt355.1 bt355.2.1 bt355.2.2.1 bt362.1 bt362.2.1 bt362.2.2.1).bind fun t369 => (if t369 = true then (if (bt355.2.2.2 == bt362.2.2.2) = true then ((record_Sum.f kj18 l1 a2).bind fun t370 => ((epactref12_Sum.f kj18 l1 a2).bind fun t371 => (if t370 = t371 then ((record_Step.f kj18 l1 a2).bind fun t372 => ((epactref12_Step.f kj18 l1 a2).bind fun t373 => (some (t372 == t373)))) else (none)))) else (none)) else (none))) else (none)) else (none)) else (none))))) = some r := H
                have A52 := Aside0.mk A520
                clear A520
                replace H := Option.bind_eq_some_iff.mp H
                obtain ⟨⟨t353, t354⟩, A530, H⟩ := H
                replace H : ((record_Table.f kj18 l1).bind fun bt355 => ((epactref12_Table.f kj18 l1).bind fun bt362 => (if t331 = true then (if t351 = t353 then (if (t352 == t354) = true then ((epactref09_Same.f kj18 bt355.1 bt355.2.1 bt355.2.2.1 bt362.1 bt362.2.1 bt362.2.2.1).bind fun t369 => (if t369 = true then (if (bt355.2.2.2 == bt362.2.2.2) = true then ((record_Sum.f kj18 l1 a2).bind fun t370 => ((epactref12_Sum.f kj18 l1 a2).bind fun t371 => (if t370 = t371 then ((record_Step.f kj18 l1 a2).bind fun t372 => ((epactref12_Step.f kj18 l1 a2).bind fun t373 => (some (t372 == t373)))) else (none)))) else (none)) else (none))) else (none)) else (none)) else (none)))) = some r := H
                have A53 := Aside0.mk A530
                clear A530
                replace H := Option.bind_eq_some_iff.mp H
                obtain ⟨⟨t355, t358, t359, t360⟩, A540, H⟩ := H
                replace H : ((epactref12_Table.f kj18 l1).bind fun bt362 => (if t331 = true then (if t351 = t353 then (if (t352 == t354) = true then ((epactref09_Same.f kj18 t355 t358 t359 bt362.1 bt362.2.1 bt362.2.2.1).bind fun t369 => (if t369 = true then (if (t360 == bt362.2.2.2) = true then ((record_Sum.f kj18 l1 a2).bind fun t370 => ((epactref12_Sum.f kj18 l1 a2).bind fun t371 => (if t370 = t371 then ((record_Step.f kj18 l1 a2).bind fun t372 => ((epactref12_Step.f kj18 l1 a2).bind fun t373 => (some (t372 == t373)))) else (none)))) else (none)) else (none))) else (none)) else (none)) else (none))) = some r := H
                have A54 := Aside0.mk A540
                clear A540
                replace H := Option.bind_eq_some_iff.mp H
                obtain ⟨⟨t362, t365, t366, t367⟩, A550, H⟩ := H
                replace H : (if t331 = true then (if t351 = t353 then (if (t352 == t354) = true then ((epactref09_Same.f kj18 t355 t358 t359 t362 t365 t366).bind fun t369 => (if t369 = true then (if (t360 == t367) = true then ((record_Sum.f kj18 l1 a2).bind fun t370 => ((epactref12_Sum.f kj18 l1 a2).bind fun t371 => (if t370 = t371 then ((record_Step.f kj18 l1 a2).bind fun t372 => ((epactref12_Step.f kj18 l1 a2).bind fun t373 => (some (t372 == t373)))) else (none)))) else (none)) else (none))) else (none)) else (none)) else (none)) = some r := H
                have A55 := Aside0.mk A550
                clear A550
                by_cases c56 : t331 = true
                · subst c56
                  have H1 : (if t351 = t353 then (if (t352 == t354) = true then ((epactref09_Same.f kj18 t355 t358 t359 t362 t365 t366).bind fun t369 => (if t369 = true then (if (t360 == t367) = true then ((record_Sum.f kj18 l1 a2).bind fun t370 => ((epactref12_Sum.f kj18 l1 a2).bind fun t371 => (if t370 = t371 then ((record_Step.f kj18 l1 a2).bind fun t372 => ((epactref12_Step.f kj18 l1 a2).bind fun t373 => (some (t372 == t373)))) else (none)))) else (none)) else (none))) else (none)) else (none)) = some r := by rw [if_pos rfl] at H; exact H
                  clear H
                  have H := H1
                  clear H1
                  by_cases c57 : t351 = t353
                  · rw [if_pos c57] at H
                    have c57b0 : (t351 == t353) = true := beq_iff_eq.mpr c57
                    have c57b1 : (t351 != t353) = false := bne_eq_false_iff_eq.mpr c57
                    clear c57
                    by_cases c58 : (t352 == t354) = true
                    · rw [if_pos c58] at H
                      have c58b0 : (t352 == t354) = true := c58
                      (try (have c58b1 : decide (t352 = t354) = true := by first | (simp; done) | (simp at c58; done) | simpa using c58))
                      (try (have c58b2 : (t352 == t354) = true := by first | (simp; done) | (simp at c58; done) | simpa using c58))
                      clear c58
                      replace H := Option.bind_eq_some_iff.mp H
                      obtain ⟨t369, A590, H⟩ := H
                      replace H : (if t369 = true then (if (t360 == t367) = true then ((record_Sum.f kj18 l1 a2).bind fun t370 => ((epactref12_Sum.f kj18 l1 a2).bind fun t371 => (if t370 = t371 then ((record_Step.f kj18 l1 a2).bind fun t372 => ((epactref12_Step.f kj18 l1 a2).bind fun t373 => (some (t372 == t373)))) else (none)))) else (none)) else (none)) = some r := H
                      have A59 := Aside0.mk A590
                      clear A590
                      by_cases c60 : t369 = true
                      · subst c60
                        have H1 : (if (t360 == t367) = true then ((record_Sum.f kj18 l1 a2).bind fun t370 => ((epactref12_Sum.f kj18 l1 a2).bind fun t371 => (if t370 = t371 then ((record_Step.f kj18 l1 a2).bind fun t372 => ((epactref12_Step.f kj18 l1 a2).bind fun t373 => (some (t372 == t373)))) else (none)))) else (none)) = some r := by rw [if_pos rfl] at H; exact H
                        clear H
                        have H := H1
                        clear H1
                        by_cases c61 : (t360 == t367) = true
                        · rw [if_pos c61] at H
                          have c61b0 : (t360 == t367) = true := c61
                          (try (have c61b1 : decide (t360 = t367) = true := by first | (simp; done) | (simp at c61; done) | simpa using c61))
                          (try (have c61b2 : (t360 == t367) = true := by first | (simp; done) | (simp at c61; done) | simpa using c61))
                          clear c61
                          replace H := Option.bind_eq_some_iff.mp H
                          obtain ⟨t370, A620, H⟩ := H
                          replace H : ((epactref12_Sum.f kj18 l1 a2).bind fun t371 => (if t370 = t371 then ((record_Step.f kj18 l1 a2).bind fun t372 => ((epactref12_Step.f kj18 l1 a2).bind fun t373 => (some (t372 == t373)))) else (none))) = some r := H
                          have A62 := Aside0.mk A620
                          clear A620
                          replace H := Option.bind_eq_some_iff.mp H
                          obtain ⟨t371, A630, H⟩ := H
                          replace H : (if t370 = t371 then ((record_Step.f kj18 l1 a2).bind fun t372 => ((epactref12_Step.f kj18 l1 a2).bind fun t373 => (some (t372 == t373)))) else (none)) = some r := H
                          have A63 := Aside0.mk A630
                          clear A630
                          by_cases c64 : t370 = t371
                          · rw [if_pos c64] at H
                            have c64b0 : (t370 == t371) = true := beq_iff_eq.mpr c64
                            have c64b1 : (t370 != t371) = false := bne_eq_false_iff_eq.mpr c64
                            clear c64
                            replace H := Option.bind_eq_some_iff.mp H
                            obtain ⟨t372, A650, H⟩ := H
                            replace H : ((epactref12_Step.f kj18 l1 a2).bind fun t373 => (some (t372 == t373))) = some r := H
                            have A65 := Aside0.mk A650
                            clear A650
                            replace H := Option.bind_eq_some_iff.mp H
                            obtain ⟨t373, A660, H⟩ := H
                            replace H : (some (t372 == t373)) = some r := H
                            have A66 := Aside0.mk A660
                            clear A660
                            obtain rfl := Option.some.inj H
                            go_wp2_with (first | ((with_reducible refine gate_callee (f := 17) rfl ?_); refine goesL_ (some 99) rfl rfl Try.func17 (by kernel_rfl) rfl #[.slice A1 l1.length c1] rfl (by (try simp only [List.map_toArray, List.map_cons, List.map_nil]); first | done | rfl | (simp only [List.length_drop, List.length_take]; rfl)) ?_; (with_reducible refine (epactref12_Right.calls kj18 _ _ l1 true _ ?side1 ?side2 A50.out).mono ?_); (case side1 => repeat (first | exact (Kd.C_below HR1.out HB.out) | (with_reducible refine Kd.C_alloc ?_ _) | (with_reducible refine Kd.C_drewN ?_ _) | (with_reducible refine Kd.C_drew ?_))); (case side2 => exact HC1.out); rintro e w' ⟨rfl, ⟨nd, rfl⟩⟩; refine ⟨_, rfl, ?_⟩; (try (rw [drewN_self wc]; generalize hq_ : World.drewN wc _ = wc; have n0_ : Aside0 (wc.heap[gb330]? = some (.cells #[.slice A0_0 l0_0.length c0_0, .bool a0_1, .int .i64 a0_2] 24 (0, 0))) := ⟨by rw [← hq_]; exact (by (with_reducible repeat (first | refine blk_drewN ?_ _ | refine blk_drew ?_ | refine blk_alloc ?_ _)); exact BK330.out)⟩; have n1_ : Aside0 (Below w.heap.size w wc) := ⟨by rw [← hq_]; exact (by repeat (first | (with_reducible first | exact HB.out | apply below_alloc | apply pw_below_drewN | apply below_drew1 | refine below_set ?_ GE330.out) | exact HB.out))⟩; clear BK330 HB hq_; have BK330 := n0_; have HB := n1_; clear n0_ n1_))) | ((with_reducible refine gate_callee (f := 19) rfl ?_); refine goesL_ (some 104) rfl rfl Try.func19 (by kernel_rfl) rfl #[.slice A1 l1.length c1] rfl (by (try simp only [List.map_toArray, List.map_cons, List.map_nil]); first | done | rfl | (simp only [List.length_drop, List.length_take]; rfl)) ?_; (with_reducible refine (record_Expiry.calls kj18 _ _ l1 t351 t352 _ ?side1 ?side2 A52.out).mono ?_); (case side1 => repeat (first | exact (Kd.C_below HR1.out HB.out) | (with_reducible refine Kd.C_alloc ?_ _) | (with_reducible refine Kd.C_drewN ?_ _) | (with_reducible refine Kd.C_drew ?_))); (case side2 => exact HC1.out); rintro e w67 ⟨rfl, hb⟩; refine ⟨_, rfl, ?_⟩; have n0_ := Aside0.mk (blk_below (g := gb330) (o := .cells #[.slice A0_0 l0_0.length c0_0, .bool a0_1, .int .i64 a0_2] 24 (0, 0)) (by (with_reducible repeat (first | refine blk_drewN ?_ _ | refine blk_drew ?_ | refine blk_alloc ?_ _)); exact BK330.out) hb); have n1_ := Aside0.mk (below_step (by repeat (first | (with_reducible first | exact HB.out | apply below_alloc | apply pw_below_drewN | apply below_drew1 | refine below_set ?_ GE330.out) | exact HB.out)) hb); clear BK330; clear HB; have BK330 := n0_; have HB := n1_; clear n0_ n1_; (try clear hb); (try clear hb2); (try clear hk); (try clear hi)) | ((with_reducible refine gate_callee (f := 20) rfl ?_); refine goesL_ (some 109) rfl rfl Try.func20 (by kernel_rfl) rfl #[.slice A1 l1.length c1] rfl (by (try simp only [List.map_toArray, List.map_cons, List.map_nil]); first | done | rfl | (simp only [List.length_drop, List.length_take]; rfl)) ?_; (with_reducible refine (epactref12_Expiry.calls _ _ l1 t353 t354 _ ?side1 ?side2 A53.out).mono ?_); (case side1 => repeat (first | exact (Kd.C_below HR1.out HB.out) | (with_reducible refine Kd.C_alloc ?_ _) | (with_reducible refine Kd.C_drewN ?_ _) | (with_reducible refine Kd.C_drew ?_))); (case side2 => exact HC1.out); rintro e w' ⟨rfl, ⟨nd, rfl⟩⟩; refine ⟨_, rfl, ?_⟩; (try (rw [drewN_self w67]; generalize hq_ : World.drewN w67 _ = w67; have n0_ : Aside0 (w67.heap[gb330]? = some (.cells #[.slice A0_0 l0_0.length c0_0, .bool a0_1, .int .i64 a0_2] 24 (0, 0))) := ⟨by rw [← hq_]; exact (by (with_reducible repeat (first | refine blk_drewN ?_ _ | refine blk_drew ?_ | refine blk_alloc ?_ _)); exact BK330.out)⟩; have n1_ : Aside0 (Below w.heap.size w w67) := ⟨by rw [← hq_]; exact (by repeat (first | (with_reducible first | exact HB.out | apply below_alloc | apply pw_below_drewN | apply below_drew1 | refine below_set ?_ GE330.out) | exact HB.out))⟩; clear BK330 HB hq_; have BK330 := n0_; have HB := n1_; clear n0_ n1_))) | ((with_reducible refine gate_callee (f := 21) rfl ?_); refine goesL_ (some 114) rfl rfl Try.func21 (by kernel_rfl) rfl #[.slice A1 l1.length c1] rfl (by (try simp only [List.map_toArray, List.map_cons, List.map_nil]); first | done | rfl | (simp only [List.length_drop, List.length_take]; rfl)) ?_; (with_reducible refine (record_Table.calls kj18 _ _ l1 t355 t358 t359 t360 _ ?side1 ?side2 A54.out).mono ?_); (case side1 => repeat (first | exact (Kd.C_below HR1.out HB.out) | (with_reducible refine Kd.C_alloc ?_ _) | (with_reducible refine Kd.C_drewN ?_ _) | (with_reducible refine Kd.C_drew ?_))); (case side2 => exact HC1.out); rintro e w68 ⟨v356, rfl, ho0, hb⟩; refine ⟨_, rfl, ?_⟩; have n0_ := Aside0.mk (Kd.R_lower ho0 (below_size (by repeat (first | (with_reducible first | exact HB.out | apply below_alloc | apply pw_below_drewN | apply below_drew1 | refine below_set ?_ GE330.out) | exact HB.out)))); have n1_ := Aside0.mk (blk_below (g := gb330) (o := .cells #[.slice A0_0 l0_0.length c0_0, .bool a0_1, .int .i64 a0_2] 24 (0, 0)) (by (with_reducible repeat (first | refine blk_drewN ?_ _ | refine blk_drew ?_ | refine blk_alloc ?_ _)); exact BK330.out) hb); have n2_ := Aside0.mk (below_step (by repeat (first | (with_reducible first | exact HB.out | apply below_alloc | apply pw_below_drewN | apply below_drew1 | refine below_set ?_ GE330.out) | exact HB.out)) hb); clear BK330; clear HB; have HO357 := n0_; have BK330 := n1_; have HB := n2_; clear n0_ n1_ n2_; (try clear hb); (try clear hb2); (try clear hk); (try clear hi); (try clear ho0)) | ((with_reducible refine gate_dst (N := 23) rfl ?_); (try (refine gate_guard (by rfl) ?_; dsimp only)); refine box_event ?hg (N := 23) ?hd (cs := #[.slice none 0 0, .bool false, .int .i64 0]) (t := 24) ?hr ?_; (case hd => rfl); (case hg => rfl); (case hr => first | (go_simp; done) | (go_simp; rfl)); intro gb361 hg w69 hbox hb; have n0_ := Aside0.mk (Kd.R_below (by (with_reducible repeat (first | apply Kd.R_alloc | apply Kd.R_drewN | apply Kd.R_drew)); exact HO357.out) hb); have n1_ := Aside0.mk (blk_below (g := gb330) (o := .cells #[.slice A0_0 l0_0.length c0_0, .bool a0_1, .int .i64 a0_2] 24 (0, 0)) (by (with_reducible repeat (first | refine blk_drewN ?_ _ | refine blk_drew ?_ | refine blk_alloc ?_ _)); exact BK330.out) hb); have n2_ := Aside0.mk (below_step (by repeat (first | (with_reducible first | exact HB.out | apply below_alloc | apply pw_below_drewN | apply below_drew1 | refine below_set ?_ GE330.out) | exact HB.out)) hb); have n3_ := Aside0.mk (hbox); have n4_ := Aside0.mk ((by rw [hg]; exact (below_size (by repeat (first | (with_reducible first | exact HB.out | apply below_alloc | apply pw_below_drewN | apply below_drew1 | refine below_set ?_ GE330.out) | exact HB.out))) : w.heap.size ≤ gb361)); have n5_ := Aside0.mk ((by rw [hg]; exact (below_size (by repeat (first | (with_reducible first | exact HB.out | apply below_alloc | apply pw_below_drewN | apply below_drew1 | refine below_set ?_ GE330.out) | exact HB.out))) : w.heap.size ≤ gb361)); have n6_ := Aside0.mk ((by rw [hg]; exact Nat.ne_of_lt (blk_lt (g := gb330) (o := .cells #[.slice A0_0 l0_0.length c0_0, .bool a0_1, .int .i64 a0_2] 24 (0, 0)) (by (with_reducible repeat (first | refine blk_drewN ?_ _ | refine blk_drew ?_ | refine blk_alloc ?_ _)); exact BK330.out)) : gb330 ≠ gb361)); have n7_ := Aside0.mk ((by rw [hg]; exact Nat.ne_of_gt (blk_lt (g := gb330) (o := .cells #[.slice A0_0 l0_0.length c0_0, .bool a0_1, .int .i64 a0_2] 24 (0, 0)) (by (with_reducible repeat (first | refine blk_drewN ?_ _ | refine blk_drew ?_ | refine blk_alloc ?_ _)); exact BK330.out)) : gb361 ≠ gb330)); clear HO357; clear BK330; clear HB; have HO357 := n0_; have BK330 := n1_; have HB := n2_; have BK361 := n3_; have GW361 := n4_; have GE361 := n5_; have NB330_361 := n6_; have NB361_330 := n7_; clear n0_ n1_ n2_ n3_ n4_ n5_ n6_ n7_; clear hb hbox hg; obtain ⟨Ao70, co70, eo70⟩ := Kd.R_slice HO357.out; subst eo70; have hnb71 := NB361_330.out; have hnc71 := NB330_361.out; have hcz72_0 : w69.cell? ⟨gb361, 0, none⟩ = some (.slice none 0 0) := (blk_cell BK361.out 0).trans rfl; have hcz72_1 : w69.cell? ⟨gb361, 1, none⟩ = some (.bool false) := (blk_cell BK361.out 1).trans rfl; have hcz72_2 : w69.cell? ⟨gb361, 2, none⟩ = some (.int .i64 0) := (blk_cell BK361.out 2).trans rfl; have hfz72_0 := blk_frozen BK361.out 0; have hfz72_1 := blk_frozen BK361.out 1; have hfz72_2 := blk_frozen BK361.out 2) | ((with_reducible refine gate_callee (f := 22) rfl ?_); refine goesL_ (some 119) rfl rfl Try.func22 (by kernel_rfl) rfl #[.slice A1 l1.length c1] rfl (by (try simp only [List.map_toArray, List.map_cons, List.map_nil]); first | done | rfl | (simp only [List.length_drop, List.length_take]; rfl)) ?_; (with_reducible refine (epactref12_Table.calls kj18 _ _ l1 t362 t365 t366 t367 _ ?side1 ?side2 A55.out).mono ?_); (case side1 => exact Kd.C_below HR1.out (by repeat (first | (with_reducible first | exact HB.out | apply below_alloc | apply pw_below_drewN | apply below_drew1 | refine below_set ?_ GE330.out | refine below_set ?_ GE361.out) | exact HB.out))); (case side2 => exact HC1.out); rintro e w73 ⟨v363, rfl, ho0, hb⟩; refine ⟨_, rfl, ?_⟩; have n0_ := Aside0.mk (Kd.R_elder' (by (with_reducible repeat (first | apply Kd.R_alloc | apply Kd.R_drewN | apply Kd.R_drew)); exact (Kd.R_mono (Kd.R_far (p := ⟨gb361, 2, none⟩) (Kd.R_far (p := ⟨gb361, 1, none⟩) (Kd.R_far (p := ⟨gb361, 0, none⟩) (Kd.R_types HO357.out BK361.out (by decide)) (fun _ hk => hk.2) (.slice Ao70 t355.length co70)) (fun _ hk => hk.2) (.bool t358)) (fun _ hk => hk.2) (.int .i64 t359)) (fun _ h_ => h_.1))) (Kd.R_base ho0) hb); have n1_ := Aside0.mk (Kd.R_lower (Kd.R_new' ho0 (Kd.R_lt (by (with_reducible repeat (first | apply Kd.R_alloc | apply Kd.R_drewN | apply Kd.R_drew)); exact (Kd.R_mono (Kd.R_far (p := ⟨gb361, 2, none⟩) (Kd.R_far (p := ⟨gb361, 1, none⟩) (Kd.R_far (p := ⟨gb361, 0, none⟩) (Kd.R_types HO357.out BK361.out (by decide)) (fun _ hk => hk.2) (.slice Ao70 t355.length co70)) (fun _ hk => hk.2) (.bool t358)) (fun _ hk => hk.2) (.int .i64 t359)) (fun _ h_ => h_.1))))) (below_size (by repeat (first | (with_reducible first | exact HB.out | apply below_alloc | apply pw_below_drewN | apply below_drew1 | refine below_set ?_ GE330.out | refine below_set ?_ GE361.out) | exact HB.out)))); have n2_ := Aside0.mk (blk_below (g := gb330) (o := .cells #[.slice A0_0 l0_0.length c0_0, .bool a0_1, .int .i64 a0_2] 24 (0, 0)) (by (with_reducible repeat (first | refine blk_drewN ?_ _ | refine blk_drew ?_ | refine blk_alloc ?_ _)); refine blk_far ?_ NB330_361.out _; (with_reducible repeat (first | refine blk_drewN ?_ _ | refine blk_drew ?_ | refine blk_alloc ?_ _)); refine blk_far ?_ NB330_361.out _; (with_reducible repeat (first | refine blk_drewN ?_ _ | refine blk_drew ?_ | refine blk_alloc ?_ _)); refine blk_far ?_ NB330_361.out _; (with_reducible repeat (first | refine blk_drewN ?_ _ | refine blk_drew ?_ | refine blk_alloc ?_ _)); exact BK330.out) hb); have n3_ := Aside0.mk (blk_below (g := gb361) (o := .cells #[.slice Ao70 t355.length co70, .bool t358, .int .i64 t359] 24 (0, 0)) (by (with_reducible repeat (first | refine blk_drewN ?_ _ | refine blk_drew ?_ | refine blk_alloc ?_ _)); refine blk_put (cs := #[.slice Ao70 t355.length co70, .bool t358, .int .i64 0]) ?_ 2 _ rfl; (with_reducible repeat (first | refine blk_drewN ?_ _ | refine blk_drew ?_ | refine blk_alloc ?_ _)); refine blk_put (cs := #[.slice Ao70 t355.length co70, .bool false, .int .i64 0]) ?_ 1 _ rfl; (with_reducible repeat (first | refine blk_drewN ?_ _ | refine blk_drew ?_ | refine blk_alloc ?_ _)); refine blk_put (cs := #[.slice none 0 0, .bool false, .int .i64 0]) ?_ 0 _ rfl; (with_reducible repeat (first | refine blk_drewN ?_ _ | refine blk_drew ?_ | refine blk_alloc ?_ _)); exact BK361.out) hb); have n4_ := Aside0.mk (below_step (by repeat (first | (with_reducible first | exact HB.out | apply below_alloc | apply pw_below_drewN | apply below_drew1 | refine below_set ?_ GE330.out | refine below_set ?_ GE361.out) | exact HB.out)) hb); clear HO357; clear BK330; clear BK361; clear HB; have HO357 := n0_; have HO364 := n1_; have BK330 := n2_; have BK361 := n3_; have HB := n4_; clear n0_ n1_ n2_ n3_ n4_; (try clear hb); (try clear hb2); (try clear hk); (try clear hi); (try clear ho0)) | ((with_reducible refine gate_dst (N := 25) rfl ?_); (try (refine gate_guard (by rfl) ?_; dsimp only)); refine box_event ?hg (N := 25) ?hd (cs := #[.slice none 0 0, .bool false, .int .i64 0]) (t := 24) ?hr ?_; (case hd => rfl); (case hg => rfl); (case hr => first | (go_simp; done) | (go_simp; rfl)); intro gb368 hg w74 hbox hb; have n0_ := Aside0.mk (Kd.R_below (by (with_reducible repeat (first | apply Kd.R_alloc | apply Kd.R_drewN | apply Kd.R_drew)); exact HO357.out) hb); have n1_ := Aside0.mk (Kd.R_below (by (with_reducible repeat (first | apply Kd.R_alloc | apply Kd.R_drewN | apply Kd.R_drew)); exact HO364.out) hb); have n2_ := Aside0.mk (blk_below (g := gb330) (o := .cells #[.slice A0_0 l0_0.length c0_0, .bool a0_1, .int .i64 a0_2] 24 (0, 0)) (by (with_reducible repeat (first | refine blk_drewN ?_ _ | refine blk_drew ?_ | refine blk_alloc ?_ _)); exact BK330.out) hb); have n3_ := Aside0.mk (blk_below (g := gb361) (o := .cells #[.slice Ao70 t355.length co70, .bool t358, .int .i64 t359] 24 (0, 0)) (by (with_reducible repeat (first | refine blk_drewN ?_ _ | refine blk_drew ?_ | refine blk_alloc ?_ _)); exact BK361.out) hb); have n4_ := Aside0.mk (below_step (by repeat (first | (with_reducible first | exact HB.out | apply below_alloc | apply pw_below_drewN | apply below_drew1 | refine below_set ?_ GE330.out | refine below_set ?_ GE361.out) | exact HB.out)) hb); have n5_ := Aside0.mk (hbox); have n6_ := Aside0.mk ((by rw [hg]; exact (below_size (by repeat (first | (with_reducible first | exact HB.out | apply below_alloc | apply pw_below_drewN | apply below_drew1 | refine below_set ?_ GE330.out | refine below_set ?_ GE361.out) | exact HB.out))) : w.heap.size ≤ gb368)); have n7_ := Aside0.mk ((by rw [hg]; exact (below_size (by repeat (first | (with_reducible first | exact HB.out | apply below_alloc | apply pw_below_drewN | apply below_drew1 | refine below_set ?_ GE330.out | refine below_set ?_ GE361.out) | exact HB.out))) : w.heap.size ≤ gb368)); have n8_ := Aside0.mk ((by rw [hg]; exact Nat.ne_of_lt (blk_lt (g := gb330) (o := .cells #[.slice A0_0 l0_0.length c0_0, .bool a0_1, .int .i64 a0_2] 24 (0, 0)) (by (with_reducible repeat (first | refine blk_drewN ?_ _ | refine blk_drew ?_ | refine blk_alloc ?_ _)); exact BK330.out)) : gb330 ≠ gb368)); have n9_ := Aside0.mk ((by rw [hg]; exact Nat.ne_of_gt (blk_lt (g := gb330) (o := .cells #[.slice A0_0 l0_0.length c0_0, .bool a0_1, .int .i64 a0_2] 24 (0, 0)) (by (with_reducible repeat (first | refine blk_drewN ?_ _ | refine blk_drew ?_ | refine blk_alloc ?_ _)); exact BK330.out)) : gb368 ≠ gb330)); have n10_ := Aside0.mk ((by rw [hg]; exact Nat.ne_of_lt (blk_lt (g := gb361) (o := .cells #[.slice Ao70 t355.length co70, .bool t358, .int .i64 t359] 24 (0, 0)) (by (with_reducible repeat (first | refine blk_drewN ?_ _ | refine blk_drew ?_ | refine blk_alloc ?_ _)); exact BK361.out)) : gb361 ≠ gb368)); have n11_ := Aside0.mk ((by rw [hg]; exact Nat.ne_of_gt (blk_lt (g := gb361) (o := .cells #[.slice Ao70 t355.length co70, .bool t358, .int .i64 t359] 24 (0, 0)) (by (with_reducible repeat (first | refine blk_drewN ?_ _ | refine blk_drew ?_ | refine blk_alloc ?_ _)); exact BK361.out)) : gb368 ≠ gb361)); clear HO357; clear HO364; clear BK330; clear BK361; clear HB; have HO357 := n0_; have HO364 := n1_; have BK330 := n2_; have BK361 := n3_; have HB := n4_; have BK368 := n5_; have GW368 := n6_; have GE368 := n7_; have NB330_368 := n8_; have NB368_330 := n9_; have NB361_368 := n10_; have NB368_361 := n11_; clear n0_ n1_ n2_ n3_ n4_ n5_ n6_ n7_ n8_ n9_ n10_ n11_; clear hb hbox hg; obtain ⟨Ao75, co75, eo75⟩ := Kd.R_slice HO364.out; subst eo75; have hnb76 := NB368_330.out; have hnc76 := NB330_368.out; have hnb77 := NB368_361.out; have hnc77 := NB361_368.out; have hcz78_0 : w74.cell? ⟨gb368, 0, none⟩ = some (.slice none 0 0) := (blk_cell BK368.out 0).trans rfl; have hcz78_1 : w74.cell? ⟨gb368, 1, none⟩ = some (.bool false) := (blk_cell BK368.out 1).trans rfl; have hcz78_2 : w74.cell? ⟨gb368, 2, none⟩ = some (.int .i64 0) := (blk_cell BK368.out 2).trans rfl; have hfz78_0 := blk_frozen BK368.out 0; have hfz78_1 := blk_frozen BK368.out 1; have hfz78_2 := blk_frozen BK368.out 2; have hcz79_0 : w74.cell? ⟨gb361, 0, none⟩ = some (.slice Ao70 t355.length co70) := (blk_cell BK361.out 0).trans rfl; have hcz79_1 : w74.cell? ⟨gb361, 1, none⟩ = some (.bool t358) := (blk_cell BK361.out 1).trans rfl; have hcz79_2 : w74.cell? ⟨gb361, 2, none⟩ = some (.int .i64 t359) := (blk_cell BK361.out 2).trans rfl; have hfz79_0 := blk_frozen BK361.out 0; have hfz79_1 := blk_frozen BK361.out 1; have hfz79_2 := blk_frozen BK361.out 2) | (go_at_call 23; (with_reducible refine (epactref09_Same.calls kj18 _ _ t355 t358 t359 _ _ t362 t365 t366 true _ ?side1 ?side2 ?side3 ?side4 A59.out).mono ?_); (case side1 => refine (Kd.R_reads' (e := 47) (base := w.heap.size) (ok := fun k_ => (True ∧ some k_ ≠ (.slice Ao75 t362.length co75 : Value).ownBlock)) (n := t355.length) (c := co70) ?_).2.2; exact (by (with_reducible repeat (first | apply Kd.R_alloc | apply Kd.R_drewN | apply Kd.R_drew)); exact (Kd.R_mono (Kd.R_far (p := ⟨gb368, 2, none⟩) (Kd.R_far (p := ⟨gb368, 1, none⟩) (Kd.R_far (p := ⟨gb368, 0, none⟩) (Kd.R_types HO357.out BK368.out (by decide)) (fun _ hk => hk.2) (.slice Ao75 t362.length co75)) (fun _ hk => hk.2) (.bool t365)) (fun _ hk => hk.2) (.int .i64 t366)) (fun _ h_ => h_.1)))); (case side2 => exact (Kd.R_reads' HO357.out).2.1); (case side3 => refine (Kd.R_reads' (e := 47) (base := w.heap.size) (ok := fun k_ => (True ∧ some k_ ≠ (.slice Ao70 t355.length co70 : Value).ownBlock)) (n := t362.length) (c := co75) ?_).2.2; exact (by (with_reducible repeat (first | apply Kd.R_alloc | apply Kd.R_drewN | apply Kd.R_drew)); exact (Kd.R_mono (Kd.R_far (p := ⟨gb368, 2, none⟩) (Kd.R_far (p := ⟨gb368, 1, none⟩) (Kd.R_far (p := ⟨gb368, 0, none⟩) (Kd.R_types HO364.out BK368.out (by decide)) (fun _ hk => hk.2) (.slice Ao75 t362.length co75)) (fun _ hk => hk.2) (.bool t365)) (fun _ hk => hk.2) (.int .i64 t366)) (fun _ h_ => h_.1)))); (case side4 => exact (Kd.R_reads' HO364.out).2.1); rintro e w80 ⟨rfl, hb⟩; have n0_ := Aside0.mk (Kd.R_below (by (with_reducible repeat (first | apply Kd.R_alloc | apply Kd.R_drewN | apply Kd.R_drew)); exact (Kd.R_mono (Kd.R_far (p := ⟨gb368, 2, none⟩) (Kd.R_far (p := ⟨gb368, 1, none⟩) (Kd.R_far (p := ⟨gb368, 0, none⟩) (Kd.R_types HO357.out BK368.out (by decide)) (fun _ hk => hk.2) (.slice Ao75 t362.length co75)) (fun _ hk => hk.2) (.bool t365)) (fun _ hk => hk.2) (.int .i64 t366)) (fun _ h_ => h_.1))) hb); have n1_ := Aside0.mk (Kd.R_below (by (with_reducible repeat (first | apply Kd.R_alloc | apply Kd.R_drewN | apply Kd.R_drew)); exact (Kd.R_mono (Kd.R_far (p := ⟨gb368, 2, none⟩) (Kd.R_far (p := ⟨gb368, 1, none⟩) (Kd.R_far (p := ⟨gb368, 0, none⟩) (Kd.R_types HO364.out BK368.out (by decide)) (fun _ hk => hk.2) (.slice Ao75 t362.length co75)) (fun _ hk => hk.2) (.bool t365)) (fun _ hk => hk.2) (.int .i64 t366)) (fun _ h_ => h_.1))) hb); have n2_ := Aside0.mk (blk_below (g := gb330) (o := .cells #[.slice A0_0 l0_0.length c0_0, .bool a0_1, .int .i64 a0_2] 24 (0, 0)) (by (with_reducible repeat (first | refine blk_drewN ?_ _ | refine blk_drew ?_ | refine blk_alloc ?_ _)); refine blk_far ?_ NB330_368.out _; (with_reducible repeat (first | refine blk_drewN ?_ _ | refine blk_drew ?_ | refine blk_alloc ?_ _)); refine blk_far ?_ NB330_368.out _; (with_reducible repeat (first | refine blk_drewN ?_ _ | refine blk_drew ?_ | refine blk_alloc ?_ _)); refine blk_far ?_ NB330_368.out _; (with_reducible repeat (first | refine blk_drewN ?_ _ | refine blk_drew ?_ | refine blk_alloc ?_ _)); exact BK330.out) hb); have n3_ := Aside0.mk (blk_below (g := gb361) (o := .cells #[.slice Ao70 t355.length co70, .bool t358, .int .i64 t359] 24 (0, 0)) (by (with_reducible repeat (first | refine blk_drewN ?_ _ | refine blk_drew ?_ | refine blk_alloc ?_ _)); refine blk_far ?_ NB361_368.out _; (with_reducible repeat (first | refine blk_drewN ?_ _ | refine blk_drew ?_ | refine blk_alloc ?_ _)); refine blk_far ?_ NB361_368.out _; (with_reducible repeat (first | refine blk_drewN ?_ _ | refine blk_drew ?_ | refine blk_alloc ?_ _)); refine blk_far ?_ NB361_368.out _; (with_reducible repeat (first | refine blk_drewN ?_ _ | refine blk_drew ?_ | refine blk_alloc ?_ _)); exact BK361.out) hb); have n4_ := Aside0.mk (blk_below (g := gb368) (o := .cells #[.slice Ao75 t362.length co75, .bool t365, .int .i64 t366] 24 (0, 0)) (by (with_reducible repeat (first | refine blk_drewN ?_ _ | refine blk_drew ?_ | refine blk_alloc ?_ _)); refine blk_put (cs := #[.slice Ao75 t362.length co75, .bool t365, .int .i64 0]) ?_ 2 _ rfl; (with_reducible repeat (first | refine blk_drewN ?_ _ | refine blk_drew ?_ | refine blk_alloc ?_ _)); refine blk_put (cs := #[.slice Ao75 t362.length co75, .bool false, .int .i64 0]) ?_ 1 _ rfl; (with_reducible repeat (first | refine blk_drewN ?_ _ | refine blk_drew ?_ | refine blk_alloc ?_ _)); refine blk_put (cs := #[.slice none 0 0, .bool false, .int .i64 0]) ?_ 0 _ rfl; (with_reducible repeat (first | refine blk_drewN ?_ _ | refine blk_drew ?_ | refine blk_alloc ?_ _)); exact BK368.out) hb); have n5_ := Aside0.mk (below_step (by repeat (first | (with_reducible first | exact HB.out | apply below_alloc | apply pw_below_drewN | apply below_drew1 | refine below_set ?_ GE330.out | refine below_set ?_ GE361.out | refine below_set ?_ GE368.out) | exact HB.out)) hb); clear HO357; clear HO364; clear BK330; clear BK361; clear BK368; clear HB; have HO357 := n0_; have HO364 := n1_; have BK330 := n2_; have BK361 := n3_; have BK368 := n4_; have HB := n5_; clear n0_ n1_ n2_ n3_ n4_ n5_; (try clear hb); (try clear hb2); (try clear hk); (try clear hi)) | (go_at_call 24; (with_reducible refine (record_Sum.calls kj18 _ _ l1 a2 t370 _ ?side1 ?side2 A62.out).mono ?_); (case side1 => repeat (first | exact (Kd.C_below HR1.out HB.out) | (with_reducible refine Kd.C_alloc ?_ _) | (with_reducible refine Kd.C_drewN ?_ _) | (with_reducible refine Kd.C_drew ?_))); (case side2 => exact HC1.out); rintro e w81 ⟨rfl, hb⟩; have n0_ := Aside0.mk (Kd.R_below (by (with_reducible repeat (first | apply Kd.R_alloc | apply Kd.R_drewN | apply Kd.R_drew)); exact HO357.out) hb); have n1_ := Aside0.mk (Kd.R_below (by (with_reducible repeat (first | apply Kd.R_alloc | apply Kd.R_drewN | apply Kd.R_drew)); exact HO364.out) hb); have n2_ := Aside0.mk (blk_below (g := gb330) (o := .cells #[.slice A0_0 l0_0.length c0_0, .bool a0_1, .int .i64 a0_2] 24 (0, 0)) (by (with_reducible repeat (first | refine blk_drewN ?_ _ | refine blk_drew ?_ | refine blk_alloc ?_ _)); exact BK330.out) hb); have n3_ := Aside0.mk (blk_below (g := gb361) (o := .cells #[.slice Ao70 t355.length co70, .bool t358, .int .i64 t359] 24 (0, 0)) (by (with_reducible repeat (first | refine blk_drewN ?_ _ | refine blk_drew ?_ | refine blk_alloc ?_ _)); exact BK361.out) hb); have n4_ := Aside0.mk (blk_below (g := gb368) (o := .cells #[.slice Ao75 t362.length co75, .bool t365, .int .i64 t366] 24 (0, 0)) (by (with_reducible repeat (first | refine blk_drewN ?_ _ | refine blk_drew ?_ | refine blk_alloc ?_ _)); exact BK368.out) hb); have n5_ := Aside0.mk (below_step (by repeat (first | (with_reducible first | exact HB.out | apply below_alloc | apply pw_below_drewN | apply below_drew1 | refine below_set ?_ GE330.out | refine below_set ?_ GE361.out | refine below_set ?_ GE368.out) | exact HB.out)) hb); clear HO357; clear HO364; clear BK330; clear BK361; clear BK368; clear HB; have HO357 := n0_; have HO364 := n1_; have BK330 := n2_; have BK361 := n3_; have BK368 := n4_; have HB := n5_; clear n0_ n1_ n2_ n3_ n4_ n5_; (try clear hb); (try clear hb2); (try clear hk); (try clear hi)) | (go_at_call 25; (with_reducible refine (epactref12_Sum.calls kj18 _ _ l1 a2 t371 _ ?side1 ?side2 A63.out).mono ?_); (case side1 => repeat (first | exact (Kd.C_below HR1.out HB.out) | (with_reducible refine Kd.C_alloc ?_ _) | (with_reducible refine Kd.C_drewN ?_ _) | (with_reducible refine Kd.C_drew ?_))); (case side2 => exact HC1.out); rintro e w' ⟨rfl, ⟨nd, rfl⟩⟩) | (go_at_call 26; (with_reducible refine (record_Step.calls kj18 _ _ l1 a2 t372 _ ?side1 ?side2 A65.out).mono ?_); (case side1 => repeat (first | exact (Kd.C_below HR1.out (by repeat (first | (with_reducible first | exact HB.out | apply below_alloc | apply pw_below_drewN | apply below_drew1 | refine below_set ?_ GE330.out | refine below_set ?_ GE361.out | refine below_set ?_ GE368.out) | exact HB.out))) | (with_reducible refine Kd.C_alloc ?_ _) | (with_reducible refine Kd.C_drewN ?_ _) | (with_reducible refine Kd.C_drew ?_))); (case side2 => exact HC1.out); rintro e w82 ⟨rfl, hb⟩; have n0_ := Aside0.mk (Kd.R_below (by (with_reducible repeat (first | apply Kd.R_alloc | apply Kd.R_drewN | apply Kd.R_drew)); exact HO357.out) hb); have n1_ := Aside0.mk (Kd.R_below (by (with_reducible repeat (first | apply Kd.R_alloc | apply Kd.R_drewN | apply Kd.R_drew)); exact HO364.out) hb); have n2_ := Aside0.mk (blk_below (g := gb330) (o := .cells #[.slice A0_0 l0_0.length c0_0, .bool a0_1, .int .i64 a0_2] 24 (0, 0)) (by (with_reducible repeat (first | refine blk_drewN ?_ _ | refine blk_drew ?_ | refine blk_alloc ?_ _)); exact BK330.out) hb); have n3_ := Aside0.mk (blk_below (g := gb361) (o := .cells #[.slice Ao70 t355.length co70, .bool t358, .int .i64 t359] 24 (0, 0)) (by (with_reducible repeat (first | refine blk_drewN ?_ _ | refine blk_drew ?_ | refine blk_alloc ?_ _)); exact BK361.out) hb); have n4_ := Aside0.mk (blk_below (g := gb368) (o := .cells #[.slice Ao75 t362.length co75, .bool t365, .int .i64 t366] 24 (0, 0)) (by (with_reducible repeat (first | refine blk_drewN ?_ _ | refine blk_drew ?_ | refine blk_alloc ?_ _)); exact BK368.out) hb); have n5_ := Aside0.mk (below_step (by repeat (first | (with_reducible first | exact HB.out | apply below_alloc | apply pw_below_drewN | apply below_drew1 | refine below_set ?_ GE330.out | refine below_set ?_ GE361.out | refine below_set ?_ GE368.out) | exact HB.out)) hb); clear HO357; clear HO364; clear BK330; clear BK361; clear BK368; clear HB; have HO357 := n0_; have HO364 := n1_; have BK330 := n2_; have BK361 := n3_; have BK368 := n4_; have HB := n5_; clear n0_ n1_ n2_ n3_ n4_ n5_; (try clear hb); (try clear hb2); (try clear hk); (try clear hi)) | (go_at_call 27; (with_reducible refine (epactref12_Step.calls kj18 _ _ l1 a2 t373 _ ?side1 ?side2 A66.out).mono ?_); (case side1 => repeat (first | exact (Kd.C_below HR1.out HB.out) | (with_reducible refine Kd.C_alloc ?_ _) | (with_reducible refine Kd.C_drewN ?_ _) | (with_reducible refine Kd.C_drew ?_))); (case side2 => exact HC1.out); rintro e w' ⟨rfl, ⟨nd, rfl⟩⟩))
                            go_ret
                            exact ⟨by first | rfl | (simp [errW_none, errW_some] <;> rfl) | (simp [*, errW_none, errW_some] <;> rfl), by repeat (first | (with_reducible first | exact HB.out | apply below_alloc | apply pw_below_drewN | apply below_drew1 | refine below_set ?_ GE330.out | refine below_set ?_ GE361.out | refine below_set ?_ GE368.out) | exact HB.out)⟩
                          · rw [if_neg c64] at H
                            exact absurd H (by simp)
                        · rw [if_neg c61] at H
                          exact absurd H (by simp)
                      · replace c60 := Bool.eq_false_iff.mpr c60
                        subst c60
                        have H1 : (none) = some r := by rw [if_neg (show ¬ (false = true) by decide)] at H; exact H
                        clear H
                        have H := H1
                        clear H1
                        exact absurd H (by simp)
                    · rw [if_neg c58] at H
                      exact absurd H (by simp)
                  · rw [if_neg c57] at H
                    exact absurd H (by simp)
                · replace c56 := Bool.eq_false_iff.mpr c56
                  subst c56
                  have H1 : (none) = some r := by rw [if_neg (show ¬ (false = true) by decide)] at H; exact H
                  clear H
                  have H := H1
                  clear H1
                  exact absurd H (by simp)
              · replace c51 := Bool.eq_false_iff.mpr c51
                subst c51
                have H1 : (some t331) = some r := by rw [if_neg (show ¬ (false = true) by decide)] at H; exact H
                clear H
                have H := H1
                clear H1
                obtain rfl := Option.some.inj H
                go_wp2_with (first | ((with_reducible refine gate_callee (f := 17) rfl ?_); refine goesL_ (some 99) rfl rfl Try.func17 (by kernel_rfl) rfl #[.slice A1 l1.length c1] rfl (by (try simp only [List.map_toArray, List.map_cons, List.map_nil]); first | done | rfl | (simp only [List.length_drop, List.length_take]; rfl)) ?_; (with_reducible refine (epactref12_Right.calls kj18 _ _ l1 false _ ?side1 ?side2 A50.out).mono ?_); (case side1 => repeat (first | exact (Kd.C_below HR1.out HB.out) | (with_reducible refine Kd.C_alloc ?_ _) | (with_reducible refine Kd.C_drewN ?_ _) | (with_reducible refine Kd.C_drew ?_))); (case side2 => exact HC1.out); rintro e w' ⟨rfl, ⟨nd, rfl⟩⟩; refine ⟨_, rfl, ?_⟩))
                go_ret
                exact ⟨by first | rfl | (simp [errW_none, errW_some] <;> rfl) | (simp [*, errW_none, errW_some] <;> rfl), by repeat (first | (with_reducible first | exact HB.out | apply below_alloc | apply pw_below_drewN | apply below_drew1 | refine below_set ?_ GE330.out) | exact HB.out)⟩

end Go.Proofs.Ytmnkfafnfjpliaa.PAll
