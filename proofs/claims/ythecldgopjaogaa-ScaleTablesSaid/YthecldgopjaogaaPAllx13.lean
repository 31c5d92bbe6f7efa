-- Written for this claim by wip/tools of this repo (after the kit's print; own contracts laid in).
import Derived.Test.YthecldgopjaogaaPAllx0
import Derived.Test.YthecldgopjaogaaPAllx4
import Derived.Test.YthecldgopjaogaaPAllx5
import Derived.Test.YthecldgopjaogaaPAllx12
namespace Go.Proofs.Ythecldgopjaogaa.PAll
open Go.RowKit Go.Proofs.YthecldgopjaogaaW.PrintWords Go.Proofs.YthecldgopjaogaaW.PrintLast Go.Proofs.YthecldgopjaogaaW.PrintMore
attribute [local go_sem] max2_int min2_int max_two min_two max_three min_three max_four min_four   -- for this text's walks alone
set_option linter.unusedVariables false
set_option linter.unusedSimpArgs false

/-! ### leap_Find: function 43 -/
-- by hand: wip/hand
/-- is a table's row of days in order? -/
def leap_Find.Asc (l : List S53) : Prop := l.Pairwise (fun x y => x.f0 ≤ y.f0)
instance (l : List S53) : Decidable (leap_Find.Asc l) := by unfold leap_Find.Asc; exact inferInstance
def leap_Find.f (l0_0 : List (S53)) (a0_1 : Bool) (a0_2 : Int) (a1 : Int) : Option (Int) :=
  if l0_0.length < 4611686018427387904 ∧ leap_Find.Asc l0_0 then some ((l0_0.countP (fun y => !decide (a1 ≤ y.f0)) : Nat) : Int) else none
set_option maxHeartbeats 2000000 in
theorem leap_Find.clo (gt gd n c : Nat) (ad : Addr) (a1 x : Int) (i : Nat) (W : World) (hi : i < n)
    (h0 : W.cell? ⟨gt, 0, none⟩ = some (.slice (some ad) n c)) (hd : W.cell? ⟨gd, 0, none⟩ = some (.int .i64 a1)) (hc : W.cell? (ad.add (i * 3)) = some (.int .i64 x)) :
    Calls Try.prog 58 (#[.int .i64 i] ++ #[.pointer (some ⟨gt, 0, none⟩), .pointer (some ⟨gd, 0, none⟩)]) W fun e w' => e = .returned (.bool (decide (a1 ≤ x))) ∧ ∃ q, w' = W.drewN q := by
  have hiz : (i : Int) < (n : Int) := by omega
  have hu := Try.underlying38
  have hu2 := Try.underlying53
  go_enter Try.func58, Try.ntmps58
  go_wp2
  go_region
  all_goals go_wp2
  all_goals go_ret
  all_goals exact ⟨by first | rfl | simp, 1, rfl⟩
theorem leap_Find.asc_at {l : List S53} (h : leap_Find.Asc l) (a b : Nat) (hab : a ≤ b) (hb : b < l.length) : (l.getD a z53).f0 ≤ (l.getD b z53).f0 := by
  have ha : a < l.length := by omega
  simp only [List.getD_eq_getElem?_getD, List.getElem?_eq_getElem ha, List.getElem?_eq_getElem hb, Option.getD_some]
  by_cases e : a = b
  · subst e; exact Int.le_refl _
  · exact List.pairwise_iff_getElem.mp h a b ha hb (by omega)
theorem leap_Find.count (l : List S53) (p : S53 → Bool) : (List.range l.length).countP (fun i => p (l.getD i z53)) = l.countP p := by
  have : l = (List.range l.length).map (fun i => l.getD i z53) := by
    apply List.ext_getElem
    · simp
    · intro i h1 h2; simp [h1]
  conv => rhs; rw [this, List.countP_map]
  rfl
open Go.Shelf Go.Sort in
set_option maxHeartbeats 4000000 in
theorem leap_Find.calls (A0_0 : Option Addr) (c0_0 : Nat) (l0_0 : List (S53)) (a0_1 : Bool) (a0_2 : Int) (a1 : Int) (r : Int) (w : World) (hr0_0 : Kd.C k53 w A0_0 l0_0.length l0_0) (hc0_0 : l0_0.length ≤ c0_0) (h : leap_Find.f l0_0 a0_1 a0_2 a1 = some r) :
    Calls Try.prog 43 #[.agg #[.slice A0_0 l0_0.length c0_0, .bool a0_1, .int .i64 a0_2], .int .i64 a1] w fun e w' => e = .returned (.int .i64 r) ∧ Below w.heap.size w w' := by
  unfold leap_Find.f at h
  by_cases hs : l0_0.length < 4611686018427387904 ∧ leap_Find.Asc l0_0
  · rw [if_pos hs] at h
    obtain ⟨hsz, hasc⟩ := hs
    obtain ⟨W0, hW0⟩ : ∃ W0, W0 = (w.alloc (.cells #[.slice A0_0 l0_0.length c0_0, .bool a0_1, .int .i64 a0_2] 38)).alloc (.cells #[.int .i64 a1] 3) := ⟨_, rfl⟩
    have hsize : W0.heap.size = w.heap.size + 1 + 1 := by rw [hW0]; simp
    have ca : W0.cell? ⟨w.heap.size, 0, none⟩ = some (.slice A0_0 l0_0.length c0_0) := by
      rw [hW0]; exact cell_alloc_sl _ ((blk_cell (by simpa using heap_alloc_new w _) 0).trans rfl)
    have cx : W0.cell? ⟨w.heap.size + 1, 0, none⟩ = some (.int .i64 a1) := by
      rw [hW0]
      have := cell_new_sl (w.alloc (.cells #[.slice A0_0 l0_0.length c0_0, .bool a0_1, .int .i64 a0_2] 38)) (.int .i64 a1) 3
      rwa [World.size_alloc] at this
    have eg : ∀ args w, (callFunc 58 args).run Try.prog w = .ok (.enter 58 args) w := enters_of Try.func58 (by kernel_rfl) rfl
    have hS := Any.sort_Search Try.laysSearch 58 #[.pointer (some ⟨w.heap.size, 0, none⟩), .pointer (some ⟨w.heap.size + 1, 0, none⟩)] l0_0.length (fun i => decide (a1 ≤ (l0_0.getD i z53).f0)) W0 eg hsz
      (fun m os i hi => by
        obtain ⟨ad, rfl, hx, _, _⟩ := at_T53 hr0_0 (i : Int) (by omega) (by omega)
        have hx' : w.cell? (ad.add (i * 3)) = some (.int .i64 (l0_0.getD i z53).f0) := by simpa [rd_T53] using hx
        have hlt := World.block_lt_of_cell? w _ hx'
        have hx2 : W0.cell? (ad.add (i * 3)) = some (.int .i64 (l0_0.getD i z53).f0) := by
          rw [hW0, World.cell?_alloc_lt _ _ _ (by simp; omega), World.cell?_alloc_lt _ _ _ hlt]; exact hx'
        refine (leap_Find.clo w.heap.size (w.heap.size + 1) l0_0.length c0_0 ad a1 _ i _ hi (cell_grown (by simp [hsize]; omega) ca m os) (cell_grown (by simp [hsize]) cx m os) (cell_grown (by rw [hsize]; omega) hx2 m os)).mono ?_
        rintro _ _ ⟨he, q, hq⟩
        exact ⟨he, q, #[], by rw [hq, grow_empty]⟩)
      (fun a b hab hb hp => by have := leap_Find.asc_at hasc a b hab hb; simp only [decide_eq_true_eq] at hp ⊢; omega)
    rw [leap_Find.count l0_0 (fun y => !decide (a1 ≤ y.f0))] at hS
    change Calls Try.prog 45 _ _ _ at hS
    obtain rfl := Option.some.inj h
    clear h ca cx hasc
    have hsz' := Aside0.mk hsz
    clear hsz
    generalize l0_0.countP (fun y => !decide (a1 ≤ y.f0)) = r at hS ⊢
    have hu := Try.underlying38
    have HS := Aside0.mk hS
    clear hS
    have HW := Aside0.mk hW0
    clear hW0
    have HZ := Aside0.mk hsize
    clear hsize
    go_enter Try.func43, Try.ntmps43
    go_wp2_with (go_at_call 45; rw [← HW.out]; refine HS.out.mono ?_; rintro e w' ⟨rfl, q, os, rfl⟩)
    go_ret
    refine ⟨rfl, ?_⟩
    have hB0 : Below w.heap.size w W0 := by rw [HW.out]; exact ((Below.refl _ w).alloc (Nat.le_refl _) _).alloc (by simp) _
    exact hB0.trans (below_grown_sl w.heap.size W0 q os (by have := HZ.out; omega))
  · rw [if_neg hs] at h; exact absurd h (by simp)

/-! ### leap_Step: function 22 -/
def leap_Step.f (l0_0 : List (S53)) (a0_1 : Bool) (a0_2 : Int) (a1 : Int) : Option (Int) := (leap_Find.f l0_0 a0_1 a0_2 a1).bind fun t447 => (if t447 < (l0_0.length : Int) then (if 0 ≤ t447 then (if ((rd_T53 l0_0 t447).f0) = a1 then (some ((rd_T53 l0_0 t447).f1)) else (some 0)) else (none)) else (some 0))
set_option maxHeartbeats 8000000 in
set_option maxRecDepth 100000 in
theorem leap_Step.calls (A0_0 : Option Addr) (c0_0 : Nat) (l0_0 : List (S53)) (a0_1 : Bool) (a0_2 : Int) (a1 : Int) (r : Int) (w : World) (hr0_0 : Kd.C k53 w A0_0 l0_0.length l0_0) (hc0_0 : l0_0.length ≤ c0_0) (h : leap_Step.f l0_0 a0_1 a0_2 a1 = some r) :
    Calls Try.prog 22 #[.agg #[.slice A0_0 l0_0.length c0_0, .bool a0_1, .int .i64 a0_2], .int .i64 a1] w fun e w' => e = .returned (.int .i64 r) ∧ Below w.heap.size w w' := by
  have hu38 := Try.underlying38
  have HR0_0 := Aside0.mk hr0_0
  have HC0_0 := Aside0.mk hc0_0
  clear hr0_0 hc0_0
  have HB := Aside0.mk (Below.refl w.heap.size w)
  have H : ((leap_Find.f l0_0 a0_1 a0_2 a1).bind fun t447 => (if t447 < (l0_0.length : Int) then (if 0 ≤ t447 then (if ((rd_T53 l0_0 t447).f0) = a1 then (some ((rd_T53 l0_0 t447).f1)) else (some 0)) else (none)) else (some 0))) = some r := h
  clear h
  replace H := Option.bind_eq_some_iff.mp H
  obtain ⟨t447, A30, H⟩ := H
  replace H : (if t447 < (l0_0.length : Int) then (if 0 ≤ t447 then (if ((rd_T53 l0_0 t447).f0) = a1 then (some ((rd_T53 l0_0 t447).f1)) else (some 0)) else (none)) else (some 0)) = some r := H
  have A3 := Aside0.mk A30
  clear A30
  by_cases c4 : t447 < (l0_0.length : Int)
  · rw [if_pos c4] at H
    have c4b0 : decide (t447 < (l0_0.length : Int)) = true := decide_eq_true c4
    clear c4
    by_cases c5 : 0 ≤ t447
    · rw [if_pos c5] at H
      have c5b0 : decide (0 ≤ t447) = true := decide_eq_true c5
      clear c5
      by_cases c6 : ((rd_T53 l0_0 t447).f0) = a1
      · rw [if_pos c6] at H
        have c6b0 : (((rd_T53 l0_0 t447).f0) == a1) = true := beq_iff_eq.mpr c6
        have c6b1 : (((rd_T53 l0_0 t447).f0) != a1) = false := bne_eq_false_iff_eq.mpr c6
        clear c6
        obtain rfl := Option.some.inj H
        go_enter Try.func22, Try.ntmps22
        go_wp2_with (first | ((with_reducible refine gate_dst (N := 2) rfl ?_); refine box_event ?hg (N := 2) ?hd (cs := #[.slice A0_0 l0_0.length c0_0, .bool a0_1, .int .i64 a0_2]) (t := 38) ?hr ?_; (case hd => rfl); (case hg => rfl); (case hr => first | (go_simp; done) | (go_simp; rfl)); intro gb446 hg w7 hbox hb; have n0_ := Aside0.mk (below_step (by repeat (first | (with_reducible first | exact HB.out | apply below_alloc | apply pw_below_drewN | apply below_drew1) | exact HB.out)) hb); have n1_ := Aside0.mk (hbox); have n2_ := Aside0.mk ((by rw [hg]; exact (below_size (by repeat (first | (with_reducible first | exact HB.out | apply below_alloc | apply pw_below_drewN | apply below_drew1) | exact HB.out))) : w.heap.size ≤ gb446)); have n3_ := Aside0.mk ((by rw [hg]; exact (below_size (by repeat (first | (with_reducible first | exact HB.out | apply below_alloc | apply pw_below_drewN | apply below_drew1) | exact HB.out))) : w.heap.size ≤ gb446)); clear HB; have HB := n0_; have BK446 := n1_; have GW446 := n2_; have GE446 := n3_; clear n0_ n1_ n2_ n3_; clear hb hbox hg; have hcz8_0 : w7.cell? ⟨gb446, 0, none⟩ = some (.slice A0_0 l0_0.length c0_0) := (blk_cell BK446.out 0).trans rfl; have hcz8_1 : w7.cell? ⟨gb446, 1, none⟩ = some (.bool a0_1) := (blk_cell BK446.out 1).trans rfl; have hcz8_2 : w7.cell? ⟨gb446, 2, none⟩ = some (.int .i64 a0_2) := (blk_cell BK446.out 2).trans rfl; have hfz8_0 := blk_frozen BK446.out 0; have hfz8_1 := blk_frozen BK446.out 1; have hfz8_2 := blk_frozen BK446.out 2) | ((with_reducible refine gate_callee (f := 43) rfl ?_); refine goesL_ (some 8) rfl rfl Try.func43 (by kernel_rfl) rfl #[.agg #[.slice A0_0 l0_0.length c0_0, .bool a0_1, .int .i64 a0_2], .int .i64 a1] rfl (by (try simp only [List.map_toArray, List.map_cons, List.map_nil]); first | done | rfl | (simp only [List.length_drop, List.length_take]; rfl)) ?_; (with_reducible refine (leap_Find.calls _ _ l0_0 a0_1 a0_2 a1 t447 _ ?side1 ?side2 A3.out).mono ?_); (case side1 => repeat (first | exact (Kd.C_below HR0_0.out HB.out) | (with_reducible refine Kd.C_alloc ?_ _) | (with_reducible refine Kd.C_drewN ?_ _) | (with_reducible refine Kd.C_drew ?_))); (case side2 => exact HC0_0.out); rintro e w9 ⟨rfl, hb⟩; refine ⟨_, rfl, ?_⟩; have n0_ := Aside0.mk (blk_below (g := gb446) (o := .cells #[.slice A0_0 l0_0.length c0_0, .bool a0_1, .int .i64 a0_2] 38 (0, 0)) (by (with_reducible repeat (first | refine blk_drewN ?_ _ | refine blk_drew ?_ | refine blk_alloc ?_ _)); exact BK446.out) hb); have n1_ := Aside0.mk (below_step (by repeat (first | (with_reducible first | exact HB.out | apply below_alloc | apply pw_below_drewN | apply below_drew1 | refine below_set ?_ GE446.out) | exact HB.out)) hb); clear BK446; clear HB; have BK446 := n0_; have HB := n1_; clear n0_ n1_; (try clear hb); (try clear hb2); (try clear hk); (try clear hi); have hcz10_0 : w9.cell? ⟨gb446, 0, none⟩ = some (.slice A0_0 l0_0.length c0_0) := (blk_cell BK446.out 0).trans rfl; have hcz10_1 : w9.cell? ⟨gb446, 1, none⟩ = some (.bool a0_1) := (blk_cell BK446.out 1).trans rfl; have hcz10_2 : w9.cell? ⟨gb446, 2, none⟩ = some (.int .i64 a0_2) := (blk_cell BK446.out 2).trans rfl; have hfz10_0 := blk_frozen BK446.out 0; have hfz10_1 := blk_frozen BK446.out 1; have hfz10_2 := blk_frozen BK446.out 2; have p448 : 0 ≤ (t447 : Int) := of_decide_eq_true (by first | (with_reducible assumption) | assumption); have q448 : t447 < (l0_0.length : Int) := of_decide_eq_true (by first | (with_reducible assumption) | assumption); obtain ⟨ad448, e448, hx448_0, hx448_1, hx448_2⟩ := at_T53 HR0_0.out t447 p448 q448; cases e448; replace hx448_0 := (HB.out.cell (World.block_lt_of_cell? w _ hx448_0)).trans hx448_0; replace hx448_1 := (HB.out.cell (World.block_lt_of_cell? w _ hx448_1)).trans hx448_1; replace hx448_2 := (HB.out.cell (World.block_lt_of_cell? w _ hx448_2)).trans hx448_2; replace p448 := eq_true p448; replace q448 := eq_true q448; have p449 : 0 ≤ (t447 : Int) := of_decide_eq_true (by first | (with_reducible assumption) | assumption); have q449 : t447 < (l0_0.length : Int) := of_decide_eq_true (by first | (with_reducible assumption) | assumption); obtain ⟨ad449, e449, hx449_0, hx449_1, hx449_2⟩ := at_T53 HR0_0.out t447 p449 q449; obtain rfl : ad448 = ad449 := (by injection e449); replace hx449_0 := (HB.out.cell (World.block_lt_of_cell? w _ hx449_0)).trans hx449_0; replace hx449_1 := (HB.out.cell (World.block_lt_of_cell? w _ hx449_1)).trans hx449_1; replace hx449_2 := (HB.out.cell (World.block_lt_of_cell? w _ hx449_2)).trans hx449_2; replace p449 := eq_true p449; replace q449 := eq_true q449))
        go_ret
        exact ⟨by first | rfl | (simp [errW_none, errW_some] <;> rfl) | (simp [*, errW_none, errW_some] <;> rfl), by repeat (first | (with_reducible first | exact HB.out | apply below_alloc | apply pw_below_drewN | apply below_drew1 | refine below_set ?_ GE446.out) | exact HB.out)⟩
      · rw [if_neg c6] at H
        have c6b0 : (((rd_T53 l0_0 t447).f0) == a1) = false := beq_eq_false_iff_ne.mpr c6
        have c6b1 : (((rd_T53 l0_0 t447).f0) != a1) = true := bne_iff_ne.mpr c6
        obtain rfl := Option.some.inj H
        go_enter Try.func22, Try.ntmps22
        go_wp2_with (first | ((with_reducible refine gate_dst (N := 2) rfl ?_); refine box_event ?hg (N := 2) ?hd (cs := #[.slice A0_0 l0_0.length c0_0, .bool a0_1, .int .i64 a0_2]) (t := 38) ?hr ?_; (case hd => rfl); (case hg => rfl); (case hr => first | (go_simp; done) | (go_simp; rfl)); intro gb446 hg w11 hbox hb; have n0_ := Aside0.mk (below_step (by repeat (first | (with_reducible first | exact HB.out | apply below_alloc | apply pw_below_drewN | apply below_drew1) | exact HB.out)) hb); have n1_ := Aside0.mk (hbox); have n2_ := Aside0.mk ((by rw [hg]; exact (below_size (by repeat (first | (with_reducible first | exact HB.out | apply below_alloc | apply pw_below_drewN | apply below_drew1) | exact HB.out))) : w.heap.size ≤ gb446)); have n3_ := Aside0.mk ((by rw [hg]; exact (below_size (by repeat (first | (with_reducible first | exact HB.out | apply below_alloc | apply pw_below_drewN | apply below_drew1) | exact HB.out))) : w.heap.size ≤ gb446)); clear HB; have HB := n0_; have BK446 := n1_; have GW446 := n2_; have GE446 := n3_; clear n0_ n1_ n2_ n3_; clear hb hbox hg; have hcz12_0 : w11.cell? ⟨gb446, 0, none⟩ = some (.slice A0_0 l0_0.length c0_0) := (blk_cell BK446.out 0).trans rfl; have hcz12_1 : w11.cell? ⟨gb446, 1, none⟩ = some (.bool a0_1) := (blk_cell BK446.out 1).trans rfl; have hcz12_2 : w11.cell? ⟨gb446, 2, none⟩ = some (.int .i64 a0_2) := (blk_cell BK446.out 2).trans rfl; have hfz12_0 := blk_frozen BK446.out 0; have hfz12_1 := blk_frozen BK446.out 1; have hfz12_2 := blk_frozen BK446.out 2) | ((with_reducible refine gate_callee (f := 43) rfl ?_); refine goesL_ (some 8) rfl rfl Try.func43 (by kernel_rfl) rfl #[.agg #[.slice A0_0 l0_0.length c0_0, .bool a0_1, .int .i64 a0_2], .int .i64 a1] rfl (by (try simp only [List.map_toArray, List.map_cons, List.map_nil]); first | done | rfl | (simp only [List.length_drop, List.length_take]; rfl)) ?_; (with_reducible refine (leap_Find.calls _ _ l0_0 a0_1 a0_2 a1 t447 _ ?side1 ?side2 A3.out).mono ?_); (case side1 => repeat (first | exact (Kd.C_below HR0_0.out HB.out) | (with_reducible refine Kd.C_alloc ?_ _) | (with_reducible refine Kd.C_drewN ?_ _) | (with_reducible refine Kd.C_drew ?_))); (case side2 => exact HC0_0.out); rintro e w13 ⟨rfl, hb⟩; refine ⟨_, rfl, ?_⟩; have n0_ := Aside0.mk (blk_below (g := gb446) (o := .cells #[.slice A0_0 l0_0.length c0_0, .bool a0_1, .int .i64 a0_2] 38 (0, 0)) (by (with_reducible repeat (first | refine blk_drewN ?_ _ | refine blk_drew ?_ | refine blk_alloc ?_ _)); exact BK446.out) hb); have n1_ := Aside0.mk (below_step (by repeat (first | (with_reducible first | exact HB.out | apply below_alloc | apply pw_below_drewN | apply below_drew1 | refine below_set ?_ GE446.out) | exact HB.out)) hb); clear BK446; clear HB; have BK446 := n0_; have HB := n1_; clear n0_ n1_; (try clear hb); (try clear hb2); (try clear hk); (try clear hi); have hcz14_0 : w13.cell? ⟨gb446, 0, none⟩ = some (.slice A0_0 l0_0.length c0_0) := (blk_cell BK446.out 0).trans rfl; have hcz14_1 : w13.cell? ⟨gb446, 1, none⟩ = some (.bool a0_1) := (blk_cell BK446.out 1).trans rfl; have hcz14_2 : w13.cell? ⟨gb446, 2, none⟩ = some (.int .i64 a0_2) := (blk_cell BK446.out 2).trans rfl; have hfz14_0 := blk_frozen BK446.out 0; have hfz14_1 := blk_frozen BK446.out 1; have hfz14_2 := blk_frozen BK446.out 2; have p448 : 0 ≤ (t447 : Int) := of_decide_eq_true (by first | (with_reducible assumption) | assumption); have q448 : t447 < (l0_0.length : Int) := of_decide_eq_true (by first | (with_reducible assumption) | assumption); obtain ⟨ad448, e448, hx448_0, hx448_1, hx448_2⟩ := at_T53 HR0_0.out t447 p448 q448; cases e448; replace hx448_0 := (HB.out.cell (World.block_lt_of_cell? w _ hx448_0)).trans hx448_0; replace hx448_1 := (HB.out.cell (World.block_lt_of_cell? w _ hx448_1)).trans hx448_1; replace hx448_2 := (HB.out.cell (World.block_lt_of_cell? w _ hx448_2)).trans hx448_2; replace p448 := eq_true p448; replace q448 := eq_true q448))
        go_ret
        exact ⟨by first | rfl | (simp [errW_none, errW_some] <;> rfl) | (simp [*, errW_none, errW_some] <;> rfl), by repeat (first | (with_reducible first | exact HB.out | apply below_alloc | apply pw_below_drewN | apply below_drew1 | refine below_set ?_ GE446.out) | exact HB.out)⟩
    · rw [if_neg c5] at H
      exact absurd H (by simp)
  · rw [if_neg c4] at H
    have c4b0 : decide (t447 < (l0_0.length : Int)) = false := decide_eq_false c4
    clear c4
    obtain rfl := Option.some.inj H
    go_enter Try.func22, Try.ntmps22
    go_wp2_with (first | ((with_reducible refine gate_dst (N := 2) rfl ?_); refine box_event ?hg (N := 2) ?hd (cs := #[.slice A0_0 l0_0.length c0_0, .bool a0_1, .int .i64 a0_2]) (t := 38) ?hr ?_; (case hd => rfl); (case hg => rfl); (case hr => first | (go_simp; done) | (go_simp; rfl)); intro gb446 hg w15 hbox hb; have n0_ := Aside0.mk (below_step (by repeat (first | (with_reducible first | exact HB.out | apply below_alloc | apply pw_below_drewN | apply below_drew1) | exact HB.out)) hb); have n1_ := Aside0.mk (hbox); have n2_ := Aside0.mk ((by rw [hg]; exact (below_size (by repeat (first | (with_reducible first | exact HB.out | apply below_alloc | apply pw_below_drewN | apply below_drew1) | exact HB.out))) : w.heap.size ≤ gb446)); have n3_ := Aside0.mk ((by rw [hg]; exact (below_size (by repeat (first | (with_reducible first | exact HB.out | apply below_alloc | apply pw_below_drewN | apply below_drew1) | exact HB.out))) : w.heap.size ≤ gb446)); clear HB; have HB := n0_; have BK446 := n1_; have GW446 := n2_; have GE446 := n3_; clear n0_ n1_ n2_ n3_; clear hb hbox hg; have hcz16_0 : w15.cell? ⟨gb446, 0, none⟩ = some (.slice A0_0 l0_0.length c0_0) := (blk_cell BK446.out 0).trans rfl; have hcz16_1 : w15.cell? ⟨gb446, 1, none⟩ = some (.bool a0_1) := (blk_cell BK446.out 1).trans rfl; have hcz16_2 : w15.cell? ⟨gb446, 2, none⟩ = some (.int .i64 a0_2) := (blk_cell BK446.out 2).trans rfl; have hfz16_0 := blk_frozen BK446.out 0; have hfz16_1 := blk_frozen BK446.out 1; have hfz16_2 := blk_frozen BK446.out 2) | ((with_reducible refine gate_callee (f := 43) rfl ?_); refine goesL_ (some 8) rfl rfl Try.func43 (by kernel_rfl) rfl #[.agg #[.slice A0_0 l0_0.length c0_0, .bool a0_1, .int .i64 a0_2], .int .i64 a1] rfl (by (try simp only [List.map_toArray, List.map_cons, List.map_nil]); first | done | rfl | (simp only [List.length_drop, List.length_take]; rfl)) ?_; (with_reducible refine (leap_Find.calls _ _ l0_0 a0_1 a0_2 a1 t447 _ ?side1 ?side2 A3.out).mono ?_); (case side1 => repeat (first | exact (Kd.C_below HR0_0.out HB.out) | (with_reducible refine Kd.C_alloc ?_ _) | (with_reducible refine Kd.C_drewN ?_ _) | (with_reducible refine Kd.C_drew ?_))); (case side2 => exact HC0_0.out); rintro e w17 ⟨rfl, hb⟩; refine ⟨_, rfl, ?_⟩; have n0_ := Aside0.mk (blk_below (g := gb446) (o := .cells #[.slice A0_0 l0_0.length c0_0, .bool a0_1, .int .i64 a0_2] 38 (0, 0)) (by (with_reducible repeat (first | refine blk_drewN ?_ _ | refine blk_drew ?_ | refine blk_alloc ?_ _)); exact BK446.out) hb); have n1_ := Aside0.mk (below_step (by repeat (first | (with_reducible first | exact HB.out | apply below_alloc | apply pw_below_drewN | apply below_drew1 | refine below_set ?_ GE446.out) | exact HB.out)) hb); clear BK446; clear HB; have BK446 := n0_; have HB := n1_; clear n0_ n1_; (try clear hb); (try clear hb2); (try clear hk); (try clear hi); have hcz18_0 : w17.cell? ⟨gb446, 0, none⟩ = some (.slice A0_0 l0_0.length c0_0) := (blk_cell BK446.out 0).trans rfl; have hcz18_1 : w17.cell? ⟨gb446, 1, none⟩ = some (.bool a0_1) := (blk_cell BK446.out 1).trans rfl; have hcz18_2 : w17.cell? ⟨gb446, 2, none⟩ = some (.int .i64 a0_2) := (blk_cell BK446.out 2).trans rfl; have hfz18_0 := blk_frozen BK446.out 0; have hfz18_1 := blk_frozen BK446.out 1; have hfz18_2 := blk_frozen BK446.out 2))
    go_ret
    exact ⟨by first | rfl | (simp [errW_none, errW_some] <;> rfl) | (simp [*, errW_none, errW_some] <;> rfl), by repeat (first | (with_reducible first | exact HB.out | apply below_alloc | apply pw_below_drewN | apply below_drew1 | refine below_set ?_ GE446.out) | exact HB.out)⟩

/-! ### leap_Length: function 23 -/
def leap_Length.f (l0_0 : List (S53)) (a0_1 : Bool) (a0_2 : Int) (a1 : Int) : Option (Int) := (leap_Step.f l0_0 a0_1 a0_2 a1).bind fun t451 => (some (wrap64 (86400 + t451)))
set_option maxHeartbeats 8000000 in
set_option maxRecDepth 100000 in
theorem leap_Length.calls (A0_0 : Option Addr) (c0_0 : Nat) (l0_0 : List (S53)) (a0_1 : Bool) (a0_2 : Int) (a1 : Int) (r : Int) (w : World) (hr0_0 : Kd.C k53 w A0_0 l0_0.length l0_0) (hc0_0 : l0_0.length ≤ c0_0) (h : leap_Length.f l0_0 a0_1 a0_2 a1 = some r) :
    Calls Try.prog 23 #[.agg #[.slice A0_0 l0_0.length c0_0, .bool a0_1, .int .i64 a0_2], .int .i64 a1] w fun e w' => e = .returned (.int .i64 r) ∧ Below w.heap.size w w' := by
  have hu38 := Try.underlying38
  have HR0_0 := Aside0.mk hr0_0
  have HC0_0 := Aside0.mk hc0_0
  clear hr0_0 hc0_0
  have HB := Aside0.mk (Below.refl w.heap.size w)
  have H : ((leap_Step.f l0_0 a0_1 a0_2 a1).bind fun t451 => (some (wrap64 (86400 + t451)))) = some r := h
  clear h
  replace H := Option.bind_eq_some_iff.mp H
  obtain ⟨t451, A30, H⟩ := H
  replace H : (some (wrap64 (86400 + t451))) = some r := H
  have A3 := Aside0.mk A30
  clear A30
  obtain rfl := Option.some.inj H
  go_enter Try.func23, Try.ntmps23
  go_wp2_with (first | ((with_reducible refine gate_dst (N := 2) rfl ?_); refine box_event ?hg (N := 2) ?hd (cs := #[.slice A0_0 l0_0.length c0_0, .bool a0_1, .int .i64 a0_2]) (t := 38) ?hr ?_; (case hd => rfl); (case hg => rfl); (case hr => first | (go_simp; done) | (go_simp; rfl)); intro gb450 hg w4 hbox hb; have n0_ := Aside0.mk (below_step (by repeat (first | (with_reducible first | exact HB.out | apply below_alloc | apply pw_below_drewN | apply below_drew1) | exact HB.out)) hb); have n1_ := Aside0.mk (hbox); have n2_ := Aside0.mk ((by rw [hg]; exact (below_size (by repeat (first | (with_reducible first | exact HB.out | apply below_alloc | apply pw_below_drewN | apply below_drew1) | exact HB.out))) : w.heap.size ≤ gb450)); have n3_ := Aside0.mk ((by rw [hg]; exact (below_size (by repeat (first | (with_reducible first | exact HB.out | apply below_alloc | apply pw_below_drewN | apply below_drew1) | exact HB.out))) : w.heap.size ≤ gb450)); clear HB; have HB := n0_; have BK450 := n1_; have GW450 := n2_; have GE450 := n3_; clear n0_ n1_ n2_ n3_; clear hb hbox hg; have hcz5_0 : w4.cell? ⟨gb450, 0, none⟩ = some (.slice A0_0 l0_0.length c0_0) := (blk_cell BK450.out 0).trans rfl; have hcz5_1 : w4.cell? ⟨gb450, 1, none⟩ = some (.bool a0_1) := (blk_cell BK450.out 1).trans rfl; have hcz5_2 : w4.cell? ⟨gb450, 2, none⟩ = some (.int .i64 a0_2) := (blk_cell BK450.out 2).trans rfl; have hfz5_0 := blk_frozen BK450.out 0; have hfz5_1 := blk_frozen BK450.out 1; have hfz5_2 := blk_frozen BK450.out 2) | ((with_reducible refine gate_callee (f := 22) rfl ?_); refine goesL_ (some 7) rfl rfl Try.func22 (by kernel_rfl) rfl #[.agg #[.slice A0_0 l0_0.length c0_0, .bool a0_1, .int .i64 a0_2], .int .i64 a1] rfl (by (try simp only [List.map_toArray, List.map_cons, List.map_nil]); first | done | rfl | (simp only [List.length_drop, List.length_take]; rfl)) ?_; (with_reducible refine (leap_Step.calls _ _ l0_0 a0_1 a0_2 a1 t451 _ ?side1 ?side2 A3.out).mono ?_); (case side1 => repeat (first | exact (Kd.C_below HR0_0.out HB.out) | (with_reducible refine Kd.C_alloc ?_ _) | (with_reducible refine Kd.C_drewN ?_ _) | (with_reducible refine Kd.C_drew ?_))); (case side2 => exact HC0_0.out); rintro e w6 ⟨rfl, hb⟩; refine ⟨_, rfl, ?_⟩; have n0_ := Aside0.mk (blk_below (g := gb450) (o := .cells #[.slice A0_0 l0_0.length c0_0, .bool a0_1, .int .i64 a0_2] 38 (0, 0)) (by (with_reducible repeat (first | refine blk_drewN ?_ _ | refine blk_drew ?_ | refine blk_alloc ?_ _)); exact BK450.out) hb); have n1_ := Aside0.mk (below_step (by repeat (first | (with_reducible first | exact HB.out | apply below_alloc | apply pw_below_drewN | apply below_drew1 | refine below_set ?_ GE450.out) | exact HB.out)) hb); clear BK450; clear HB; have BK450 := n0_; have HB := n1_; clear n0_ n1_; (try clear hb); (try clear hb2); (try clear hk); (try clear hi)))
  go_ret
  exact ⟨by first | rfl | (simp [errW_none, errW_some] <;> rfl) | (simp [*, errW_none, errW_some] <;> rfl), by repeat (first | (with_reducible first | exact HB.out | apply below_alloc | apply pw_below_drewN | apply below_drew1 | refine below_set ?_ GE450.out) | exact HB.out)⟩

/-! ### leap_Total: function 24 -/
def leap_Total.l0 : Nat → Int → List (S53) → Int → Int → Option (Int)
  | 0, _, _, _, _ => none
  | k + 1, x4, x12, x13, x14 => if x14 < x13 then (if 0 ≤ x14 then (if x14 < (x12.length : Int) then (leap_Total.l0 k (wrap64 (x4 + ((rd_T53 x12 x14).f1))) x12 x13 (wrap64 (x14 + 1))) else (none)) else (none)) else (some x4)
def leap_Total.f (k : Nat) (l0_0 : List (S53)) (a0_1 : Bool) (a0_2 : Int) (a1 : Int) : Option (Int) := (leap_Find.f l0_0 a0_1 a0_2 a1).bind fun t453 => (if 0 ≤ t453 then (if t453 ≤ (l0_0.length : Int) then ((some (l0_0.take (t453 : Int).toNat : List (S53))).bind fun y454 => (leap_Total.l0 k 0 y454 (y454.length : Int) 0)) else (none)) else (none))
theorem leap_Total.mono_l : ∀ k, (∀ y0 y1 y2 y3, LeO (leap_Total.l0 k y0 y1 y2 y3) (leap_Total.l0 (k + 1) y0 y1 y2 y3))
  | 0 => fun _ _ _ _ r h => by simp [leap_Total.l0] at h
  | k + 1 => by
    have ih0 := leap_Total.mono_l k
    · intro y0 y1 y2 y3
      unfold leap_Total.l0
      repeat' first
      | (with_reducible exact ih0 _ _ _ _)
      | (with_reducible exact LeO.refl _)
      | (with_reducible exact LeO.none _)
      | (with_reducible refine LeO.ite ?_ ?_)
      | (with_reducible refine LeO.bind ?_ (fun _ => ?_))
      | exact ih0 _ _ _ _
      | exact LeO.none _
      | refine LeO.ite ?_ ?_
      | refine LeO.bind ?_ (fun _ => ?_)
theorem leap_Total.mono : ∀ a0 a1 a2 a3 k, LeO (leap_Total.f k a0 a1 a2 a3) (leap_Total.f (k + 1) a0 a1 a2 a3) := by
  intro a0 a1 a2 a3 k
  have ih0 := leap_Total.mono_l k
  unfold leap_Total.f
  repeat' first
      | (with_reducible exact ih0 _ _ _ _)
      | (with_reducible exact LeO.refl _)
      | (with_reducible exact LeO.none _)
      | (with_reducible refine LeO.ite ?_ ?_)
      | (with_reducible refine LeO.bind ?_ (fun _ => ?_))
      | exact ih0 _ _ _ _
      | exact LeO.none _
      | refine LeO.ite ?_ ?_
      | refine LeO.bind ?_ (fun _ => ?_)
def leap_Total.T1 : Bool × List (List Nat × List Nat) := (true, [([], []), ([0], [0]), ([], []), ([], []), ([2, 3], [2, 3]), ([1, 4], [1, 4]), ([5], [5]), ([], [])])
def leap_Total.B1 : List Nat := [0, 1, 0, 0, 12, 31, 63, 0]
theorem leap_Total.tab1 : rtab .any (opsOf Try.f24 1) = leap_Total.T1 := by kernel_rfl
theorem leap_Total.bits1 : waitsOk leap_Total.T1.2 leap_Total.B1 = true := by kernel_rfl
set_option maxHeartbeats 8000000 in
set_option maxRecDepth 100000 in
theorem leap_Total.calls (k : Nat) (A0_0 : Option Addr) (c0_0 : Nat) (l0_0 : List (S53)) (a0_1 : Bool) (a0_2 : Int) (a1 : Int) (r : Int) (w : World) (hr0_0 : Kd.C k53 w A0_0 l0_0.length l0_0) (hc0_0 : l0_0.length ≤ c0_0) (h : leap_Total.f k l0_0 a0_1 a0_2 a1 = some r) :
    Calls Try.prog 24 #[.agg #[.slice A0_0 l0_0.length c0_0, .bool a0_1, .int .i64 a0_2], .int .i64 a1] w fun e w' => e = .returned (.int .i64 r) ∧ Below w.heap.size w w' := by
  have hu38 := Try.underlying38
  have hu53 := Try.underlying53
  have HR0_0 := Aside0.mk hr0_0
  have HC0_0 := Aside0.mk hc0_0
  clear hr0_0 hc0_0
  have HB := Aside0.mk (Below.refl w.heap.size w)
  have H : ((leap_Find.f l0_0 a0_1 a0_2 a1).bind fun t453 => (if 0 ≤ t453 then (if t453 ≤ (l0_0.length : Int) then ((some (l0_0.take (t453 : Int).toNat : List (S53))).bind fun y454 => (leap_Total.l0 k 0 y454 (y454.length : Int) 0)) else (none)) else (none))) = some r := h
  clear h
  replace H := Option.bind_eq_some_iff.mp H
  obtain ⟨t453, A30, H⟩ := H
  replace H : (if 0 ≤ t453 then (if t453 ≤ (l0_0.length : Int) then ((some (l0_0.take (t453 : Int).toNat : List (S53))).bind fun y454 => (leap_Total.l0 k 0 y454 (y454.length : Int) 0)) else (none)) else (none)) = some r := H
  have A3 := Aside0.mk A30
  clear A30
  by_cases c4 : 0 ≤ t453
  · rw [if_pos c4] at H
    have c4b0 := eq_true c4
    have c4b1 : decide (0 ≤ t453) = true := decide_eq_true c4
    clear c4
    by_cases c5 : t453 ≤ (l0_0.length : Int)
    · rw [if_pos c5] at H
      have c5b0 := eq_true c5
      have c5b1 : decide (t453 ≤ (l0_0.length : Int)) = true := decide_eq_true c5
      clear c5
      obtain ⟨y454, hy454⟩ : ∃ y_ : List (S53), y_ = (l0_0.take (t453 : Int).toNat) := ⟨_, rfl⟩
      replace H : (leap_Total.l0 k 0 y454 (y454.length : Int) 0) = some r := by first | (rw [hy454]; with_reducible exact H) | (have H2_ := (Option.bind_some _ _).symm.trans H; rw [hy454]; with_reducible exact H2_) | (have H2_ := (Option.bind_some _ _).symm.trans H; with_reducible exact H2_) | with_reducible exact H | (rw [hy454]; exact H) | exact H
      have Ny454 := Aside0.mk hy454
      clear hy454
      have H' := Aside0.mk H
      clear H
      go_enter Try.func24, Try.ntmps24
      try go_wp2_with (first | ((with_reducible refine gate_dst (N := 2) rfl ?_); refine box_event ?hg (N := 2) ?hd (cs := #[.slice A0_0 l0_0.length c0_0, .bool a0_1, .int .i64 a0_2]) (t := 38) ?hr ?_; (case hd => rfl); (case hg => rfl); (case hr => first | (go_simp; done) | (go_simp; rfl)); intro gb452 hg w6 hbox hb; have n0_ := Aside0.mk (below_step (by repeat (first | (with_reducible first | exact HB.out | apply below_alloc | apply pw_below_drewN | apply below_drew1) | exact HB.out)) hb); have n1_ := Aside0.mk (hbox); have n2_ := Aside0.mk ((by rw [hg]; exact (below_size (by repeat (first | (with_reducible first | exact HB.out | apply below_alloc | apply pw_below_drewN | apply below_drew1) | exact HB.out))) : w.heap.size ≤ gb452)); have n3_ := Aside0.mk ((by rw [hg]; exact (below_size (by repeat (first | (with_reducible first | exact HB.out | apply below_alloc | apply pw_below_drewN | apply below_drew1) | exact HB.out))) : w.heap.size ≤ gb452)); clear HB; have HB := n0_; have BK452 := n1_; have GW452 := n2_; have GE452 := n3_; clear n0_ n1_ n2_ n3_; clear hb hbox hg))
      have n0_ := Aside0.mk (blk_drew BK452.out)
      have n1_ := Aside0.mk (below_drew1 HB.out)
      clear BK452
      clear HB
      have BK452 := n0_
      have HB := n1_
      clear n0_ n1_
      refine start_ (n := 8) (S := fun w' => w'.cell? ⟨gb452, 0, none⟩ = some (.slice A0_0 l0_0.length c0_0) ∧ w'.cell? ⟨gb452, 1, none⟩ = some (.bool a0_1) ∧ w'.cell? ⟨gb452, 2, none⟩ = some (.int .i64 a0_2)) (ds := []) #[false, false, false, false, false, false, false, false] (by kernel_rfl) rfl rfl ⟨(blk_cell BK452.out 0).trans rfl, (blk_cell BK452.out 1).trans rfl, (blk_cell BK452.out 2).trans rfl⟩ (fun hHeld => ?_); refine with_tabW leap_Total.tab1 leap_Total.bits1 (fun HT_ HW_ => ?_)
      generalize w6.drew = w7 at BK452 HB hHeld ⊢
      refine pure_ (i := 0) (N := some 7) (v := ?_) (a' := ?_) #[true, false, false, false, false, false, false, false] rfl rfl (any_of HT_.out (by kernel_rfl)) (fun _ _ _ h => h) (Or.inl ⟨by rfl, ?_⟩) ?_ ?_
      rotate_left
      · intro w'
        go_simp
        with_reducible rfl
      rotate_left
      · simp only [Act.put, List.setIfInBounds_toArray, List.set_cons_zero, List.set_cons_succ, i64_w, i32_w]
        rfl
      refine pure_ (i := 3) (N := some 10) (v := ?_) (a' := ?_) #[true, false, false, true, false, false, false, false] rfl rfl (any_of HT_.out (by kernel_rfl)) (fun _ _ _ h => h) (Or.inl ⟨by rfl, ?_⟩) ?_ ?_
      rotate_left
      · intro w'
        go_simp
        with_reducible rfl
      rotate_left
      · simp only [Act.put, List.setIfInBounds_toArray, List.set_cons_zero, List.set_cons_succ, i64_w, i32_w]
        rfl
      refine pure_ (i := 7) (N := some 14) (v := ?_) (a' := ?_) #[true, false, false, true, false, false, false, true] rfl rfl (any_of HT_.out (by kernel_rfl)) (fun _ _ _ h => h) (Or.inl ⟨by rfl, ?_⟩) ?_ ?_
      rotate_left
      · intro w'
        go_simp
        with_reducible rfl
      rotate_left
      · simp only [Act.put, List.setIfInBounds_toArray, List.set_cons_zero, List.set_cons_succ, i64_w, i32_w]
        rfl
      refine take_ (i := 1) (N := some 8) (v := ?_) (a' := ?_) #[true, true, false, true, false, false, false, true] rfl rfl (take_ofW HT_.out HW_.out (by kernel_rfl)) (fun _ _ _ h => h) (Or.inl ⟨by rfl, ?_⟩) hHeld ?_ ?_
      rotate_left
      · rintro w' ⟨s0, s1, s2⟩
        go_simp
        with_reducible rfl
      rotate_left
      · simp only [Act.put, List.setIfInBounds_toArray, List.set_cons_zero, List.set_cons_succ, i64_w, i32_w]
        rfl
      refine take_ (i := 2) (N := some 9) (v := ?_) (a' := ?_) #[true, true, true, true, false, false, false, true] rfl rfl (take_ofW HT_.out HW_.out (by kernel_rfl)) (fun _ _ _ h => h) (Or.inl ⟨by rfl, ?_⟩) hHeld ?_ ?_
      rotate_left
      · rintro w' ⟨s0, s1, s2⟩
        go_simp
        with_reducible rfl
      rotate_left
      · simp only [Act.put, List.setIfInBounds_toArray, List.set_cons_zero, List.set_cons_succ, i64_w, i32_w]
        rfl
      refine one_ (i := 4) (N := some 11) #[true, true, true, true, true, false, false, true] rfl rfl (one_of HT_.out (by kernel_rfl)) (by decide) (fun K hK => ?_)
      refine goes_ Try.func43 (by kernel_rfl) rfl #[.agg #[.slice A0_0 l0_0.length c0_0, .bool a0_1, .int .i64 a0_2], .int .i64 a1] (by rfl) rfl rfl (by (try simp only [List.map_toArray, List.map_cons, List.map_nil]); first | done | rfl | (simp only [List.length_drop, List.length_take]; rfl)) ?_
      with_reducible refine (leap_Find.calls _ _ l0_0 a0_1 a0_2 a1 t453 _ ?side1 ?side2 A3.out).mono ?_
      (case side1 => repeat (first | exact (Kd.C_below HR0_0.out HB.out) | (with_reducible refine Kd.C_alloc ?_ _) | (with_reducible refine Kd.C_drewN ?_ _) | (with_reducible refine Kd.C_drew ?_)))
      (case side2 => exact HC0_0.out)
      rintro e w8 ⟨rfl, hb⟩
      refine ⟨_, rfl, ?_⟩
      have n0_ := Aside0.mk (blk_below (g := gb452) (o := .cells #[.slice A0_0 l0_0.length c0_0, .bool a0_1, .int .i64 a0_2] 38 (0, 0)) (by (with_reducible repeat (first | refine blk_drewN ?_ _ | refine blk_drew ?_ | refine blk_alloc ?_ _)); exact BK452.out) hb)
      have n1_ := Aside0.mk (below_step (by repeat (first | (with_reducible first | exact HB.out | apply below_alloc | apply pw_below_drewN | apply below_drew1 | refine below_set ?_ GE452.out) | exact HB.out)) hb)
      clear BK452
      clear HB
      have BK452 := n0_
      have HB := n1_
      clear n0_ n1_
      (try clear hb)
      (try clear hb2)
      (try clear hk)
      (try clear hi)
      have q9 : (t453 : Int) ≤ ((l0_0.length : Int) : Int) := of_decide_eq_true (by first | (with_reducible assumption) | assumption)
      obtain ⟨i09, hi09, _, hsz9, _⟩ := info_parts info53
      have hroom9 : l0_0.length ≤ c0_0 := HC0_0.out
      have hC9 : Kd.C k53 _ A0_0 l0_0.length l0_0 := HR0_0.out
      have hcut9 := cut_to (P := Try.prog) 36 53 .i64 Try.underlying36 hi09 A0_0 l0_0.length c0_0 t453 (of_decide_eq_true (by first | (with_reducible assumption) | assumption)) q9 hroom9
      have hr9 := Kd.C_take (m := (t453 : Int).toNat) hC9 (by omega)
      have hy9 : y454.length = (t453 : Int).toNat := (by rw [Ny454.out, List.length_take]; omega)
      rw [← Ny454.out] at hr9
      rw [← hy9] at hcut9
      have HR457 := Aside0.mk hr9
      have HC457 := Aside0.mk (show y454.length ≤ c0_0 from by omega)
      clear hr9 hC9 hroom9 hi09 hsz9
      have KY9 := Aside0.mk hy9
      clear hy9
      replace q9 := eq_true q9
      refine hK.out _ _ ⟨(blk_cell BK452.out 0).trans rfl, (blk_cell BK452.out 1).trans rfl, (blk_cell BK452.out 2).trans rfl⟩ (fun hHeld => ?_)
      clear hK K
      refine norm_ (a' := ?_) ?_ ?_
      rotate_left
      · show Act.put _ (some 11) _ = _
        simp only [Act.put, List.setIfInBounds_toArray, List.set_cons_zero, List.set_cons_succ, i64_w, i32_w]
        rfl
      refine pure_ (i := 5) (N := some 12) (v := ?_) (a' := ?_) #[true, true, true, true, true, true, false, true] rfl rfl (any_of HT_.out (by kernel_rfl)) (fun _ _ _ h => h) (Or.inl ⟨by rfl, ?_⟩) ?_ ?_
      rotate_left
      · intro w'
        go_simp
        with_reducible rfl
      rotate_left
      · simp only [Act.put, List.setIfInBounds_toArray, List.set_cons_zero, List.set_cons_succ, i64_w, i32_w]
        rfl
      refine pure_ (i := 6) (N := some 13) (v := ?_) (a' := ?_) #[true, true, true, true, true, true, true, true] rfl rfl (any_of HT_.out (by kernel_rfl)) (fun _ _ _ h => h) (Or.inl ⟨by rfl, ?_⟩) ?_ ?_
      rotate_left
      · intro w'
        go_simp
        with_reducible rfl
      rotate_left
      · simp only [Act.put, List.setIfInBounds_toArray, List.set_cons_zero, List.set_cons_succ, i64_w, i32_w]
        rfl
      refine done_ (done_of HT_.out (by kernel_rfl)) ?_
      try go_wp2
      go_loopg [4, 14] k (fun kq v4 v14 w' => ∃ (x4_1 : Int) (x14_1 : Int), v4 = .int .i64 x4_1 ∧ v14 = .int .i64 x14_1 ∧ Aside0 (leap_Total.l0 kq x4_1 y454 (y454.length : Int) x14_1 = some r) ∧ Aside0 (kq ≤ k) ∧ Aside0 (w'.heap[gb452]? = some (.cells #[(.slice A0_0 l0_0.length c0_0), .bool a0_1, .int .i64 a0_2] 38 (0, 0))) ∧ Aside0 (Below w.heap.size w w'))
      case atStart => exact ⟨(0), (0), (by first | rfl | (simp; done) | (simp [*]; done)), (by first | rfl | (simp; done) | (simp [*]; done)), H', ⟨Nat.le_refl _⟩, ⟨by (with_reducible repeat (first | refine blk_drewN ?_ _ | refine blk_drew ?_ | refine blk_alloc ?_ _)); exact BK452.out⟩, ⟨by repeat (first | (with_reducible first | exact HB.out | apply below_alloc | apply pw_below_drewN | apply below_drew1 | refine below_set ?_ GE452.out) | exact HB.out)⟩⟩
      case round =>
        clear H'
        try clear c2
        try clear p2
        try clear c4
        try clear c4b0
        try clear c4b1
        try clear c5
        try clear c5b0
        try clear c5b1
        try clear q9
        try clear q9
        obtain ⟨x4_1, x14_1, rfl, rfl, HA, HK1, BK452, HB⟩ := hrel
        cases gk with
        | zero => exact absurd HA.out (by simp [leap_Total.l0])
        | succ k1 =>
          have H := HA.out
          clear HA
          simp only [leap_Total.l0] at H
          by_cases c10 : x14_1 < (y454.length : Int)
          · rw [if_pos c10] at H
            have c10b0 : decide (x14_1 < (y454.length : Int)) = true := decide_eq_true c10
            clear c10
            by_cases c11 : 0 ≤ x14_1
            · rw [if_pos c11] at H
              have c11b0 : decide (0 ≤ x14_1) = true := decide_eq_true c11
              clear c11
              by_cases c12 : x14_1 < (y454.length : Int)
              · rw [if_pos c12] at H
                have c12b0 : decide (x14_1 < (y454.length : Int)) = true := decide_eq_true c12
                clear c12
                have H' := Aside0.mk H
                clear H
                have p458 : 0 ≤ (x14_1 : Int) := of_decide_eq_true (by first | (with_reducible assumption) | assumption)
                have q458 : x14_1 < (y454.length : Int) := of_decide_eq_true (by first | (with_reducible assumption) | assumption)
                obtain ⟨ad458, e458, hx458_0, hx458_1, hx458_2⟩ := at_T53 HR457.out x14_1 p458 q458
                cases e458
                replace hx458_0 := (HB.out.cell (World.block_lt_of_cell? w _ hx458_0)).trans hx458_0
                replace hx458_1 := (HB.out.cell (World.block_lt_of_cell? w _ hx458_1)).trans hx458_1
                replace hx458_2 := (HB.out.cell (World.block_lt_of_cell? w _ hx458_2)).trans hx458_2
                replace p458 := eq_true p458
                replace q458 := eq_true q458
                go_wp2_with (first | ((with_reducible refine gate_dst (N := 6) rfl ?_); refine box_event ?hg (N := 6) ?hd (cs := #[.int .i64 0, .int .i64 0, .bool false]) (t := 53) ?hr ?_; (case hd => rfl); (case hg => rfl); (case hr => first | (go_simp; done) | (go_simp; rfl)); intro gb459 hg w13 hbox hb; have n0_ := Aside0.mk (blk_below (g := gb452) (o := .cells #[.slice (some ad458) l0_0.length c0_0, .bool a0_1, .int .i64 a0_2] 38 (0, 0)) (by (with_reducible repeat (first | refine blk_drewN ?_ _ | refine blk_drew ?_ | refine blk_alloc ?_ _)); exact BK452.out) hb); have n1_ := Aside0.mk (below_step (by repeat (first | (with_reducible first | exact HB.out | apply below_alloc | apply pw_below_drewN | apply below_drew1 | refine below_set ?_ GE452.out) | exact HB.out)) hb); have n2_ := Aside0.mk (hbox); have n3_ := Aside0.mk ((by rw [hg]; exact (below_size (by repeat (first | (with_reducible first | exact HB.out | apply below_alloc | apply pw_below_drewN | apply below_drew1 | refine below_set ?_ GE452.out) | exact HB.out))) : w.heap.size ≤ gb459)); have n4_ := Aside0.mk ((by rw [hg]; exact (below_size (by repeat (first | (with_reducible first | exact HB.out | apply below_alloc | apply pw_below_drewN | apply below_drew1 | refine below_set ?_ GE452.out) | exact HB.out))) : w.heap.size ≤ gb459)); have n5_ := Aside0.mk ((by rw [hg]; exact Nat.ne_of_lt (blk_lt (g := gb452) (o := .cells #[.slice (some ad458) l0_0.length c0_0, .bool a0_1, .int .i64 a0_2] 38 (0, 0)) (by (with_reducible repeat (first | refine blk_drewN ?_ _ | refine blk_drew ?_ | refine blk_alloc ?_ _)); exact BK452.out)) : gb452 ≠ gb459)); have n6_ := Aside0.mk ((by rw [hg]; exact Nat.ne_of_gt (blk_lt (g := gb452) (o := .cells #[.slice (some ad458) l0_0.length c0_0, .bool a0_1, .int .i64 a0_2] 38 (0, 0)) (by (with_reducible repeat (first | refine blk_drewN ?_ _ | refine blk_drew ?_ | refine blk_alloc ?_ _)); exact BK452.out)) : gb459 ≠ gb452)); clear BK452; clear HB; have BK452 := n0_; have HB := n1_; have BK459 := n2_; have GW459 := n3_; have GE459 := n4_; have NB452_459 := n5_; have NB459_452 := n6_; clear n0_ n1_ n2_ n3_ n4_ n5_ n6_; clear hb hbox hg; have hnb14 := NB459_452.out; have hnc14 := NB452_459.out; have hcz15_0 : w13.cell? ⟨gb459, 0, none⟩ = some (.int .i64 0) := (blk_cell BK459.out 0).trans rfl; have hcz15_1 : w13.cell? ⟨gb459, 1, none⟩ = some (.int .i64 0) := (blk_cell BK459.out 1).trans rfl; have hcz15_2 : w13.cell? ⟨gb459, 2, none⟩ = some (.bool false) := (blk_cell BK459.out 2).trans rfl; have hfz15_0 := blk_frozen BK459.out 0; have hfz15_1 := blk_frozen BK459.out 1; have hfz15_2 := blk_frozen BK459.out 2))
                go_roundg k1
                case measure => have := HK1.out; omega
                case rel => exact ⟨(wrap64 (x4_1 + ((rd_T53 y454 x14_1).f1))), (wrap64 (x14_1 + 1)), (by first | rfl | (simp; done) | (simp [*]; done)), (by first | rfl | (simp; done) | (simp [*]; done)), H', ⟨by have := HK1.out; omega⟩, ⟨by (with_reducible repeat (first | refine blk_drewN ?_ _ | refine blk_drew ?_ | refine blk_alloc ?_ _)); refine blk_far ?_ NB452_459.out _; (with_reducible repeat (first | refine blk_drewN ?_ _ | refine blk_drew ?_ | refine blk_alloc ?_ _)); refine blk_far ?_ NB452_459.out _; (with_reducible repeat (first | refine blk_drewN ?_ _ | refine blk_drew ?_ | refine blk_alloc ?_ _)); refine blk_far ?_ NB452_459.out _; (with_reducible repeat (first | refine blk_drewN ?_ _ | refine blk_drew ?_ | refine blk_alloc ?_ _)); exact BK452.out⟩, ⟨by repeat (first | (with_reducible first | exact HB.out | apply below_alloc | apply pw_below_drewN | apply below_drew1 | refine below_set ?_ GE452.out | refine below_set ?_ GE459.out) | exact HB.out)⟩⟩
              · rw [if_neg c12] at H
                exact absurd H (by simp)
            · rw [if_neg c11] at H
              exact absurd H (by simp)
          · rw [if_neg c10] at H
            have c10b0 : decide (x14_1 < (y454.length : Int)) = false := decide_eq_false c10
            clear c10
            obtain rfl := Option.some.inj H
            go_wp2
            go_ret
            exact ⟨by first | rfl | (simp [errW_none, errW_some] <;> rfl) | (simp [*, errW_none, errW_some] <;> rfl), by repeat (first | (with_reducible first | exact HB.out | apply below_alloc | apply pw_below_drewN | apply below_drew1 | refine below_set ?_ GE452.out) | exact HB.out)⟩
    · rw [if_neg c5] at H
      exact absurd H (by simp)
  · rw [if_neg c4] at H
    exact absurd H (by simp)

/-! ### epactlaw22_ScaleTables: function 8 -/
def epactlaw22_ScaleTables.j0 : Nat → Int → Bool → Bool → List (S53) → Bool → Int → Option (Bool)
  | 0, _, _, _, _, _, _ => none
  | k + 1, x1, x5, x32, x461000, x461001, x461002 => if x32 = true then (some x5) else ((record_Records.f k x461000 x461001 x461002).bind fun bt463 => (if bt463.2 = true then ((record_Records.f k x461000 false 0).bind fun bt467 => ((scale_Length.f k bt463.1 x1).bind fun bt471 => ((scale_Tai.f k bt467.1 x1 86400).bind fun bt473 => ((scale_Tai.f k bt467.1 x1 86399).bind fun bt475 => ((leap_Step.f x461000 false 0 x1).bind fun t477 => ((scale_Tai.f k bt467.1 x1 0).bind fun bt478 => (if x5 = true then (if bt471.2 = 0 then ((leap_Length.f x461000 false 0 x1).bind fun t480 => (if bt471.1 = t480 then (if ((bt473.2 == 0) == (t477 == 1)) = true then (if ((bt475.2 == 0) == (t477 != (-1))) = true then (if bt473.2 = 0 then (if bt475.2 = 0 then (if bt478.2 = 0 then ((leap_Total.f k x461000 false 0 x1).bind fun t481 => (some (bt478.1 == (wrap64 ((wrap64 (86400 * (wrap64 (x1 - 730)))) + t481))))) else (none)) else (if bt475.2 = 11 then (if bt478.2 = 0 then ((leap_Total.f k x461000 false 0 x1).bind fun t482 => (some (bt478.1 == (wrap64 ((wrap64 (86400 * (wrap64 (x1 - 730)))) + t482))))) else (none)) else (none))) else (if bt473.2 = 11 then (if bt475.2 = 0 then (if bt478.2 = 0 then ((leap_Total.f k x461000 false 0 x1).bind fun t483 => (some (bt478.1 == (wrap64 ((wrap64 (86400 * (wrap64 (x1 - 730)))) + t483))))) else (none)) else (if bt475.2 = 11 then (if bt478.2 = 0 then ((leap_Total.f k x461000 false 0 x1).bind fun t484 => (some (bt478.1 == (wrap64 ((wrap64 (86400 * (wrap64 (x1 - 730)))) + t484))))) else (none)) else (none))) else (none))) else (none)) else (none)) else (none))) else (none)) else (none)))))))) else (some x5)))
def epactlaw22_ScaleTables.f (k : Nat) (l0_0 : List (S53)) (a0_1 : Bool) (a0_2 : Int) (a1 : Int) : Option (Bool) := (epactlaw22_small.f k).bind fun t461 => ((epactlaw09_Few.f l0_0 a0_1 a0_2).bind fun t462 => (if t462 = true then (if a1 < 730 then (epactlaw22_ScaleTables.j0 k a1 t461 true l0_0 a0_1 a0_2) else (epactlaw22_ScaleTables.j0 k a1 t461 (decide (a1 > 2932896)) l0_0 a0_1 a0_2)) else (epactlaw22_ScaleTables.j0 k a1 t461 true l0_0 a0_1 a0_2)))
theorem epactlaw22_ScaleTables.mono_l : ∀ k, (∀ y0 y1 y2 y3 y4 y5, LeO (epactlaw22_ScaleTables.j0 k y0 y1 y2 y3 y4 y5) (epactlaw22_ScaleTables.j0 (k + 1) y0 y1 y2 y3 y4 y5))
  | 0 => fun _ _ _ _ _ _ r h => by simp [epactlaw22_ScaleTables.j0] at h
  | k + 1 => by
    have ih0 := epactlaw22_ScaleTables.mono_l k
    · intro y0 y1 y2 y3 y4 y5
      unfold epactlaw22_ScaleTables.j0
      repeat' first
      | (with_reducible exact ih0 _ _ _ _ _ _)
      | (with_reducible exact epactlaw22_small.mono _)
      | (with_reducible exact leap_Total.mono _ _ _ _ _)
      | (with_reducible exact record_Records.mono _ _ _ _)
      | (with_reducible exact scale_Length.mono _ _ _)
      | (with_reducible exact scale_Tai.mono _ _ _ _)
      | (with_reducible exact LeO.refl _)
      | (with_reducible exact LeO.none _)
      | (with_reducible refine LeO.ite ?_ ?_)
      | (with_reducible refine LeO.bind ?_ (fun _ => ?_))
      | exact ih0 _ _ _ _ _ _
      | exact epactlaw22_small.mono _
      | exact leap_Total.mono _ _ _ _ _
      | exact record_Records.mono _ _ _ _
      | exact scale_Length.mono _ _ _
      | exact scale_Tai.mono _ _ _ _
      | exact LeO.none _
      | refine LeO.ite ?_ ?_
      | refine LeO.bind ?_ (fun _ => ?_)
theorem epactlaw22_ScaleTables.mono : ∀ a0 a1 a2 a3 k, LeO (epactlaw22_ScaleTables.f k a0 a1 a2 a3) (epactlaw22_ScaleTables.f (k + 1) a0 a1 a2 a3) := by
  intro a0 a1 a2 a3 k
  have ih0 := epactlaw22_ScaleTables.mono_l k
  unfold epactlaw22_ScaleTables.f
  repeat' first
      | (with_reducible exact ih0 _ _ _ _ _ _)
      | (with_reducible exact epactlaw22_small.mono _)
      | (with_reducible exact leap_Total.mono _ _ _ _ _)
      | (with_reducible exact record_Records.mono _ _ _ _)
      | (with_reducible exact scale_Length.mono _ _ _)
      | (with_reducible exact scale_Tai.mono _ _ _ _)
      | (with_reducible exact LeO.refl _)
      | (with_reducible exact LeO.none _)
      | (with_reducible refine LeO.ite ?_ ?_)
      | (with_reducible refine LeO.bind ?_ (fun _ => ?_))
      | exact ih0 _ _ _ _ _ _
      | exact epactlaw22_small.mono _
      | exact leap_Total.mono _ _ _ _ _
      | exact record_Records.mono _ _ _ _
      | exact scale_Length.mono _ _ _
      | exact scale_Tai.mono _ _ _ _
      | exact LeO.none _
      | refine LeO.ite ?_ ?_
      | refine LeO.bind ?_ (fun _ => ?_)
set_option maxHeartbeats 8000000 in
set_option maxRecDepth 100000 in
theorem epactlaw22_ScaleTables.calls (k : Nat) (A0_0 : Option Addr) (c0_0 : Nat) (l0_0 : List (S53)) (a0_1 : Bool) (a0_2 : Int) (a1 : Int) (r : Bool) (w : World) (hr0_0 : Kd.C k53 w A0_0 l0_0.length l0_0) (hc0_0 : l0_0.length ≤ c0_0) (h : epactlaw22_ScaleTables.f k l0_0 a0_1 a0_2 a1 = some r) :
    Calls Try.prog 8 #[.agg #[.slice A0_0 l0_0.length c0_0, .bool a0_1, .int .i64 a0_2], .int .i64 a1] w fun e w' => e = .returned (.bool r) ∧ Below w.heap.size w w' := by
  have hu38 := Try.underlying38
  have HR0_0 := Aside0.mk hr0_0
  have HC0_0 := Aside0.mk hc0_0
  clear hr0_0 hc0_0
  have HB := Aside0.mk (Below.refl w.heap.size w)
  have H : ((epactlaw22_small.f k).bind fun t461 => ((epactlaw09_Few.f l0_0 a0_1 a0_2).bind fun t462 => (if t462 = true then (if a1 < 730 then (epactlaw22_ScaleTables.j0 k a1 t461 true l0_0 a0_1 a0_2) else (epactlaw22_ScaleTables.j0 k a1 t461 (decide (a1 > 2932896)) l0_0 a0_1 a0_2)) else (epactlaw22_ScaleTables.j0 k a1 t461 true l0_0 a0_1 a0_2)))) = some r := h
  clear h
  replace H := Option.bind_eq_some_iff.mp H
  obtain ⟨t461, A30, H⟩ := H
  replace H : ((epactlaw09_Few.f l0_0 a0_1 a0_2).bind fun t462 => (if t462 = true then (if a1 < 730 then (epactlaw22_ScaleTables.j0 k a1 t461 true l0_0 a0_1 a0_2) else (epactlaw22_ScaleTables.j0 k a1 t461 (decide (a1 > 2932896)) l0_0 a0_1 a0_2)) else (epactlaw22_ScaleTables.j0 k a1 t461 true l0_0 a0_1 a0_2))) = some r := H
  have A3 := Aside0.mk A30
  clear A30
  replace H := Option.bind_eq_some_iff.mp H
  obtain ⟨t462, A40, H⟩ := H
  replace H : (if t462 = true then (if a1 < 730 then (epactlaw22_ScaleTables.j0 k a1 t461 true l0_0 a0_1 a0_2) else (epactlaw22_ScaleTables.j0 k a1 t461 (decide (a1 > 2932896)) l0_0 a0_1 a0_2)) else (epactlaw22_ScaleTables.j0 k a1 t461 true l0_0 a0_1 a0_2)) = some r := H
  have A4 := Aside0.mk A40
  clear A40
  have HC5 := Aside0.mk H
  clear H
  go_enter Try.func8, Try.ntmps8
  go_upto_region 3 with (first | ((with_reducible refine gate_dst (N := 2) rfl ?_); refine box_event ?hg (N := 2) ?hd (cs := #[.slice A0_0 l0_0.length c0_0, .bool a0_1, .int .i64 a0_2]) (t := 38) ?hr ?_; (case hd => rfl); (case hg => rfl); (case hr => first | (go_simp; done) | (go_simp; rfl)); intro gb460 hg w6 hbox hb; have n0_ := Aside0.mk (below_step (by repeat (first | (with_reducible first | exact HB.out | apply below_alloc | apply pw_below_drewN | apply below_drew1) | exact HB.out)) hb); have n1_ := Aside0.mk (hbox); have n2_ := Aside0.mk ((by rw [hg]; exact (below_size (by repeat (first | (with_reducible first | exact HB.out | apply below_alloc | apply pw_below_drewN | apply below_drew1) | exact HB.out))) : w.heap.size ≤ gb460)); have n3_ := Aside0.mk ((by rw [hg]; exact (below_size (by repeat (first | (with_reducible first | exact HB.out | apply below_alloc | apply pw_below_drewN | apply below_drew1) | exact HB.out))) : w.heap.size ≤ gb460)); clear HB; have HB := n0_; have BK460 := n1_; have GW460 := n2_; have GE460 := n3_; clear n0_ n1_ n2_ n3_; clear hb hbox hg) | ((with_reducible refine gate_callee (f := 9) rfl ?_); refine goesL_ (some 20) rfl rfl Try.func9 (by kernel_rfl) rfl #[] rfl (by (try simp only [List.map_toArray, List.map_cons, List.map_nil]); first | done | rfl | (simp only [List.length_drop, List.length_take]; rfl)) ?_; (with_reducible refine (epactlaw22_small.calls k  t461 _ A3.out).mono ?_); rintro e w7 ⟨rfl, hb⟩; refine ⟨_, rfl, ?_⟩; have n0_ := Aside0.mk (blk_below (g := gb460) (o := .cells #[.slice A0_0 l0_0.length c0_0, .bool a0_1, .int .i64 a0_2] 38 (0, 0)) (by (with_reducible repeat (first | refine blk_drewN ?_ _ | refine blk_drew ?_ | refine blk_alloc ?_ _)); exact BK460.out) hb); have n1_ := Aside0.mk (below_step (by repeat (first | (with_reducible first | exact HB.out | apply below_alloc | apply pw_below_drewN | apply below_drew1 | refine below_set ?_ GE460.out) | exact HB.out)) hb); clear BK460; clear HB; have BK460 := n0_; have HB := n1_; clear n0_ n1_; (try clear hb); (try clear hb2); (try clear hk); (try clear hi); have hcz8_0 : w7.cell? ⟨gb460, 0, none⟩ = some (.slice A0_0 l0_0.length c0_0) := (blk_cell BK460.out 0).trans rfl; have hcz8_1 : w7.cell? ⟨gb460, 1, none⟩ = some (.bool a0_1) := (blk_cell BK460.out 1).trans rfl; have hcz8_2 : w7.cell? ⟨gb460, 2, none⟩ = some (.int .i64 a0_2) := (blk_cell BK460.out 2).trans rfl; have hfz8_0 := blk_frozen BK460.out 0; have hfz8_1 := blk_frozen BK460.out 1; have hfz8_2 := blk_frozen BK460.out 2) | ((with_reducible refine gate_callee (f := 20) rfl ?_); refine goesL_ (some 22) rfl rfl Try.func20 (by kernel_rfl) rfl #[.agg #[.slice A0_0 l0_0.length c0_0, .bool a0_1, .int .i64 a0_2]] rfl (by (try simp only [List.map_toArray, List.map_cons, List.map_nil]); first | done | rfl | (simp only [List.length_drop, List.length_take]; rfl)) ?_; (with_reducible refine (epactlaw09_Few.calls _ _ l0_0 a0_1 a0_2 t462 _ ?side1 ?side2 A4.out).mono ?_); (case side1 => repeat (first | exact (Kd.C_below HR0_0.out HB.out) | (with_reducible refine Kd.C_alloc ?_ _) | (with_reducible refine Kd.C_drewN ?_ _) | (with_reducible refine Kd.C_drew ?_))); (case side2 => exact HC0_0.out); rintro e w9 ⟨rfl, hb⟩; refine ⟨_, rfl, ?_⟩; have n0_ := Aside0.mk (blk_below (g := gb460) (o := .cells #[.slice A0_0 l0_0.length c0_0, .bool a0_1, .int .i64 a0_2] 38 (0, 0)) (by (with_reducible repeat (first | refine blk_drewN ?_ _ | refine blk_drew ?_ | refine blk_alloc ?_ _)); exact BK460.out) hb); have n1_ := Aside0.mk (below_step (by repeat (first | (with_reducible first | exact HB.out | apply below_alloc | apply pw_below_drewN | apply below_drew1 | refine below_set ?_ GE460.out) | exact HB.out)) hb); clear BK460; clear HB; have BK460 := n0_; have HB := n1_; clear n0_ n1_; (try clear hb); (try clear hb2); (try clear hk); (try clear hi)))
  (try simp only [Act.put, List.setIfInBounds_toArray, List.set_cons_zero, List.set_cons_succ])
  go_cut [32] (fun v32 wc => ∃ (kq : Nat) (x32_4 : Bool), v32 = .bool x32_4 ∧ Aside0 (epactlaw22_ScaleTables.j0 kq a1 t461 x32_4 l0_0 a0_1 a0_2 = some r) ∧ Aside0 (kq ≤ k) ∧ Aside0 (wc.heap[gb460]? = some (.cells #[(.slice A0_0 l0_0.length c0_0), .bool a0_1, .int .i64 a0_2] 38 (0, 0))) ∧ Aside0 (Below w.heap.size w wc))
  case first =>
    have H := HC5.out
    clear HC5
    by_cases c10 : t462 = true
    · subst c10
      have H1 : (if a1 < 730 then (epactlaw22_ScaleTables.j0 k a1 t461 true l0_0 a0_1 a0_2) else (epactlaw22_ScaleTables.j0 k a1 t461 (decide (a1 > 2932896)) l0_0 a0_1 a0_2)) = some r := by rw [if_pos rfl] at H; exact H
      clear H
      have H := H1
      clear H1
      by_cases c11 : a1 < 730
      · rw [if_pos c11] at H
        have c11b0 : decide (a1 < 730) = true := decide_eq_true c11
        clear c11
        (first | rw [c11b0] | (simp only [i64_w, i32_w]; rw [c11b0]) | skip)
        have H' := Aside0.mk H
        clear H
        go_wp2
        go_meet
        case rel => exact ⟨_, (true), (by first | rfl | (simp; done) | (simp [*]; done)), H', ⟨by first | omega | exact Nat.le_refl _⟩, ⟨by (with_reducible repeat (first | refine blk_drewN ?_ _ | refine blk_drew ?_ | refine blk_alloc ?_ _)); exact BK460.out⟩, ⟨by repeat (first | (with_reducible first | exact HB.out | apply below_alloc | apply pw_below_drewN | apply below_drew1 | refine below_set ?_ GE460.out) | exact HB.out)⟩⟩
      · rw [if_neg c11] at H
        have c11b0 : decide (a1 < 730) = false := decide_eq_false c11
        clear c11
        (first | rw [c11b0] | (simp only [i64_w, i32_w]; rw [c11b0]) | skip)
        have H' := Aside0.mk H
        clear H
        go_wp2
        go_meet
        case rel => exact ⟨_, (decide (a1 > 2932896)), (by first | rfl | (simp; done) | (simp [*]; done)), H', ⟨by first | omega | exact Nat.le_refl _⟩, ⟨by (with_reducible repeat (first | refine blk_drewN ?_ _ | refine blk_drew ?_ | refine blk_alloc ?_ _)); exact BK460.out⟩, ⟨by repeat (first | (with_reducible first | exact HB.out | apply below_alloc | apply pw_below_drewN | apply below_drew1 | refine below_set ?_ GE460.out) | exact HB.out)⟩⟩
    · replace c10 := Bool.eq_false_iff.mpr c10
      subst c10
      have H1 : (epactlaw22_ScaleTables.j0 k a1 t461 true l0_0 a0_1 a0_2) = some r := by rw [if_neg (show ¬ (false = true) by decide)] at H; exact H
      clear H
      have H := H1
      clear H1
      have H' := Aside0.mk H
      clear H
      go_wp2
      go_meet
      case rel => exact ⟨_, (true), (by first | rfl | (simp; done) | (simp [*]; done)), H', ⟨by first | omega | exact Nat.le_refl _⟩, ⟨by (with_reducible repeat (first | refine blk_drewN ?_ _ | refine blk_drew ?_ | refine blk_alloc ?_ _)); exact BK460.out⟩, ⟨by repeat (first | (with_reducible first | exact HB.out | apply below_alloc | apply pw_below_drewN | apply below_drew1 | refine below_set ?_ GE460.out) | exact HB.out)⟩⟩
  case rest =>
    clear HC5
    try clear c1
    try clear c2
    try clear p2
    try clear c8
    try clear c9
    try clear c10
    try clear c11
    try clear c11b0
    try clear hcz8_0
    try clear hcz8_1
    try clear hcz8_2
    try clear hfz8_0
    try clear hfz8_1
    try clear hfz8_2
    obtain ⟨kq, x32_4, rfl, HA, HJ4, BK460, HB⟩ := hcut
    cases kq with
    | zero => exact absurd HA.out (by simp [epactlaw22_ScaleTables.j0])
    | succ kj4 =>
      have H := HA.out
      clear HA
      simp only [epactlaw22_ScaleTables.j0] at H
      by_cases c12 : x32_4 = true
      · subst c12
        have H1 : (some t461) = some r := by rw [if_pos rfl] at H; exact H
        clear H
        have H := H1
        clear H1
        obtain rfl := Option.some.inj H
        go_wp2
        go_ret
        exact ⟨by first | rfl | (simp [errW_none, errW_some] <;> rfl) | (simp [*, errW_none, errW_some] <;> rfl), by repeat (first | (with_reducible first | exact HB.out | apply below_alloc | apply pw_below_drewN | apply below_drew1 | refine below_set ?_ GE460.out) | exact HB.out)⟩
      · replace c12 := Bool.eq_false_iff.mpr c12
        subst c12
        have H1 : ((record_Records.f kj4 l0_0 a0_1 a0_2).bind fun bt463 => (if bt463.2 = true then ((record_Records.f kj4 l0_0 false 0).bind fun bt467 => ((scale_Length.f kj4 bt463.1 a1).bind fun bt471 => ((scale_Tai.f kj4 bt467.1 a1 86400).bind fun bt473 => ((scale_Tai.f kj4 bt467.1 a1 86399).bind fun bt475 => ((leap_Step.f l0_0 false 0 a1).bind fun t477 => ((scale_Tai.f kj4 bt467.1 a1 0).bind fun bt478 => (if t461 = true then (if bt471.2 = 0 then ((leap_Length.f l0_0 false 0 a1).bind fun t480 => (if bt471.1 = t480 then (if ((bt473.2 == 0) == (t477 == 1)) = true then (if ((bt475.2 == 0) == (t477 != (-1))) = true then (if bt473.2 = 0 then (if bt475.2 = 0 then (if bt478.2 = 0 then ((leap_Total.f kj4 l0_0 false 0 a1).bind fun t481 => (some (bt478.1 == (wrap64 ((wrap64 (86400 * (wrap64 (a1 - 730)))) + t481))))) else (none)) else (if bt475.2 = 11 then (if bt478.2 = 0 then ((leap_Total.f kj4 l0_0 false 0 a1).bind fun t482 => (some (bt478.1 == (wrap64 ((wrap64 (86400 * (wrap64 (a1 - 730)))) + t482))))) else (none)) else (none))) else (if bt473.2 = 11 then (if bt475.2 = 0 then (if bt478.2 = 0 then ((leap_Total.f kj4 l0_0 false 0 a1).bind fun t483 => (some (bt478.1 == (wrap64 ((wrap64 (86400 * (wrap64 (a1 - 730)))) + t483))))) else (none)) else (if bt475.2 = 11 then (if bt478.2 = 0 then ((leap_Total.f kj4 l0_0 false 0 a1).bind fun t484 => (some (bt478.1 == (wrap64 ((wrap64 (86400 * (wrap64 (a1 - 730)))) + t484))))) else (none)) else (none))) else (none))) else (none)) else (none)) else (none))) else (none)) else (none)))))))) else (some t461))) = some r := by rw [if_neg (show ¬ (false = true) by decide)] at H; exact H
        clear H
        have H := H1
        clear H1
        replace H := Option.bind_eq_some_iff.mp H
        obtain ⟨⟨t463, t466⟩, A130, H⟩ := H
        replace H : (if t466 = true then ((record_Records.f kj4 l0_0 false 0).bind fun bt467 => ((scale_Length.f kj4 t463 a1).bind fun bt471 => ((scale_Tai.f kj4 bt467.1 a1 86400).bind fun bt473 => ((scale_Tai.f kj4 bt467.1 a1 86399).bind fun bt475 => ((leap_Step.f l0_0 false 0 a1).bind fun t477 => ((scale_Tai.f kj4 bt467.1 a1 0).bind fun bt478 => (if t461 = true then (if bt471.2 = 0 then ((leap_Length.f l0_0 false 0 a1).bind fun t480 => (if bt471.1 = t480 then (if ((bt473.2 == 0) == (t477 == 1)) = true then (if ((bt475.2 == 0) == (t477 != (-1))) = true then (if bt473.2 = 0 then (if bt475.2 = 0 then (if bt478.2 = 0 then ((leap_Total.f kj4 l0_0 false 0 a1).bind fun t481 => (some (bt478.1 == (wrap64 ((wrap64 (86400 * (wrap64 (a1 - 730)))) + t481))))) else (none)) else (if bt475.2 = 11 then (if bt478.2 = 0 then ((leap_Total.f kj4 l0_0 false 0 a1).bind fun t482 => (some (bt478.1 == (wrap64 ((wrap64 (86400 * (wrap64 (a1 - 730)))) + t482))))) else (none)) else (none))) else (if bt473.2 = 11 then (if bt475.2 = 0 then (if bt478.2 = 0 then ((leap_Total.f kj4 l0_0 false 0 a1).bind fun t483 => (some (bt478.1 == (wrap64 ((wrap64 (86400 * (wrap64 (a1 - 730)))) + t483))))) else (none)) else (if bt475.2 = 11 then (if bt478.2 = 0 then ((leap_Total.f kj4 l0_0 false 0 a1).bind fun t484 => (some (bt478.1 == (wrap64 ((wrap64 (86400 * (wrap64 (a1 - 730)))) + t484))))) else (none)) else (none))) else (none))) else (none)) else (none)) else (none))) else (none)) else (none)))))))) else (some t461)) = some r := H
        have A13 := Aside0.mk A130
        clear A130
        by_cases c14 : t466 = true
        · subst c14
          have H1 : ((record_Records.f kj4 l0_0 false 0).bind fun bt467 => ((scale_Length.f kj4 t463 a1).bind fun bt471 => ((scale_Tai.f kj4 bt467.1 a1 86400).bind fun bt473 => ((scale_Tai.f kj4 bt467.1 a1 86399).bind fun bt475 => ((leap_Step.f l0_0 false 0 a1).bind fun t477 => ((scale_Tai.f kj4 bt467.1 a1 0).bind fun bt478 => (if t461 = true then (if bt471.2 = 0 then ((leap_Length.f l0_0 false 0 a1).bind fun t480 => (if bt471.1 = t480 then (if ((bt473.2 == 0) == (t477 == 1)) = true then (if ((bt475.2 == 0) == (t477 != (-1))) = true then (if bt473.2 = 0 then (if bt475.2 = 0 then (if bt478.2 = 0 then ((leap_Total.f kj4 l0_0 false 0 a1).bind fun t481 => (some (bt478.1 == (wrap64 ((wrap64 (86400 * (wrap64 (a1 - 730)))) + t481))))) else (none)) else (if bt475.2 = 11 then (if bt478.2 = 0 then ((leap_Total.f kj4 l0_0 false 0 a1).bind fun t482 => (some (bt478.1 == (wrap64 ((wrap64 (86400 * (wrap64 (a1 - 730)))) + t482))))) else (none)) else (none))) else (if bt473.2 = 11 then (if bt475.2 = 0 then (if bt478.2 = 0 then ((leap_Total.f kj4 l0_0 false 0 a1).bind fun t483 => (some (bt478.1 == (wrap64 ((wrap64 (86400 * (wrap64 (a1 - 730)))) + t483))))) else (none)) else (if bt475.2 = 11 then (if bt478.2 = 0 then ((leap_Total.f kj4 l0_0 false 0 a1).bind fun t484 => (some (bt478.1 == (wrap64 ((wrap64 (86400 * (wrap64 (a1 - 730)))) + t484))))) else (none)) else (none))) else (none))) else (none)) else (none)) else (none))) else (none)) else (none)))))))) = some r := by rw [if_pos rfl] at H; exact H
          clear H
          have H := H1
          clear H1
          replace H := Option.bind_eq_some_iff.mp H
          obtain ⟨⟨t467, t470⟩, A150, H⟩ := H
          replace H : ((scale_Length.f kj4 t463 a1).bind fun bt471 => ((scale_Tai.f kj4 t467 a1 86400).bind fun bt473 => ((scale_Tai.f kj4 t467 a1 86399).bind fun bt475 => ((leap_Step.f l0_0 false 0 a1).bind fun t477 => ((scale_Tai.f kj4 t467 a1 0).bind fun bt478 => (if t461 = true then (if bt471.2 = 0 then ((leap_Length.f l0_0 false 0 a1).bind fun t480 => (if bt471.1 = t480 then (if ((bt473.2 == 0) == (t477 == 1)) = true then (if ((bt475.2 == 0) == (t477 != (-1))) = true then (if bt473.2 = 0 then (if bt475.2 = 0 then (if bt478.2 = 0 then ((leap_Total.f kj4 l0_0 false 0 a1).bind fun t481 => (some (bt478.1 == (wrap64 ((wrap64 (86400 * (wrap64 (a1 - 730)))) + t481))))) else (none)) else (if bt475.2 = 11 then (if bt478.2 = 0 then ((leap_Total.f kj4 l0_0 false 0 a1).bind fun t482 => (some (bt478.1 == (wrap64 ((wrap64 (86400 * (wrap64 (a1 - 730)))) + t482))))) else (none)) else (none))) else (if bt473.2 = 11 then (if bt475.2 = 0 then (if bt478.2 = 0 then ((leap_Total.f kj4 l0_0 false 0 a1).bind fun t483 => (some (bt478.1 == (wrap64 ((wrap64 (86400 * (wrap64 (a1 - 730)))) + t483))))) else (none)) else (if bt475.2 = 11 then (if bt478.2 = 0 then ((leap_Total.f kj4 l0_0 false 0 a1).bind fun t484 => (some (bt478.1 == (wrap64 ((wrap64 (86400 * (wrap64 (a1 - 730)))) + t484))))) else (none)) else (none))) else (none))) else (none)) else (none)) else (none))) else (none)) else (none))))))) = some r := H
          have A15 := Aside0.mk A150
          clear A150
          replace H := Option.bind_eq_some_iff.mp H
          obtain ⟨⟨t471, t472⟩, A160, H⟩ := H
          replace H : ((scale_Tai.f kj4 t467 a1 86400).bind fun bt473 => ((scale_Tai.f kj4 t467 a1 86399).bind fun bt475 => ((leap_Step.f l0_0 false 0 a1).bind fun t477 => ((scale_Tai.f kj4 t467 a1 0).bind fun bt478 => (if t461 = true then (if t472 = 0 then ((leap_Length.f l0_0 false 0 a1).bind fun t480 => (if t471 = t480 then (if ((bt473.2 == 0) == (t477 == 1)) = true then (if ((bt475.2 == 0) == (t477 != (-1))) = true then (if bt473.2 = 0 then (if bt475.2 = 0 then (if bt478.2 = 0 then ((leap_Total.f kj4 l0_0 false 0 a1).bind fun t481 => (some (bt478.1 == (wrap64 ((wrap64 (86400 * (wrap64 (a1 - 730)))) + t481))))) else (none)) else (if bt475.2 = 11 then (if bt478.2 = 0 then ((leap_Total.f kj4 l0_0 false 0 a1).bind fun t482 => (some (bt478.1 == (wrap64 ((wrap64 (86400 * (wrap64 (a1 - 730)))) + t482))))) else (none)) else (none))) else (if bt473.2 = 11 then (if bt475.2 = 0 then (if bt478.2 = 0 then ((leap_Total.f kj4 l0_0 false 0 a1).bind fun t483 => (some (bt478.1 == (wrap64 ((wrap64 (86400 * (wrap64 (a1 - 730)))) + t483))))) else (none)) else (if bt475.2 = 11 then (if bt478.2 = 0 then ((leap_Total.f kj4 l0_0 false 0 a1).bind fun t484 => (some (bt478.1 == (wrap64 ((wrap64 (86400 * (wrap64 (a1 - 730)))) + t484))))) else (none)) else (none))) else (none))) else (none)) else (none)) else (none))) else (none)) else (none)))))) = some r := H
          have A16 := Aside0.mk A160
          clear A160
          replace H := Option.bind_eq_some_iff.mp H
          obtain ⟨⟨t473, t474⟩, A170, H⟩ := H
          replace H : ((scale_Tai.f kj4 t467 a1 86399).bind fun bt475 => ((leap_Step.f l0_0 false 0 a1).bind fun t477 => ((scale_Tai.f kj4 t467 a1 0).bind fun bt478 => (if t461 = true then (if t472 = 0 then ((leap_Length.f l0_0 false 0 a1).bind fun t480 => (if t471 = t480 then (if ((t474 == 0) == (t477 == 1)) = true then (if ((bt475.2 == 0) == (t477 != (-1))) = true then (if t474 = 0 then (if bt475.2 = 0 then (if bt478.2 = 0 then ((leap_Total.f kj4 l0_0 false 0 a1).bind fun t481 => (some (bt478.1 == (wrap64 ((wrap64 (86400 * (wrap64 (a1 - 730)))) + t481))))) else (none)) else (if bt475.2 = 11 then (if bt478.2 = 0 then ((leap_Total.f kj4 l0_0 false 0 a1).bind fun t482 => (some (bt478.1 == (wrap64 ((wrap64 (86400 * (wrap64 (a1 - 730)))) + t482))))) else (none)) else (none))) else (if t474 = 11 then (if bt475.2 = 0 then (if bt478.2 = 0 then ((leap_Total.f kj4 l0_0 false 0 a1).bind fun t483 => (some (bt478.1 == (wrap64 ((wrap64 (86400 * (wrap64 (a1 - 730)))) + t483))))) else (none)) else (if bt475.2 = 11 then (if bt478.2 = 0 then ((leap_Total.f kj4 l0_0 false 0 a1).bind fun t484 => (some (bt478.1 == (wrap64 ((wrap64 (86400 * (wrap64 (a1 - 730)))) + t484))))) else (none)) else (none))) else (none))) else (none)) else (none)) else (none))) else (none)) else (none))))) = some r := H
          have A17 := Aside0.mk A170
          clear A170
          replace H := Option.bind_eq_some_iff.mp H
          obtain ⟨⟨t475, t476⟩, A180, H⟩ := H
          replace H : ((leap_Step.f l0_0 false 0 a1).bind fun t477 => ((scale_Tai.f kj4 t467 a1 0).bind fun bt478 => (if t461 = true then (if t472 = 0 then ((leap_Length.f l0_0 false 0 a1).bind fun t480 => (if t471 = t480 then (if ((t474 == 0) == (t477 == 1)) = true then (if ((t476 == 0) == (t477 != (-1))) = true then (if t474 = 0 then (if t476 = 0 then (if bt478.2 = 0 then ((leap_Total.f kj4 l0_0 false 0 a1).bind fun t481 => (some (bt478.1 == (wrap64 ((wrap64 (86400 * (wrap64 (a1 - 730)))) + t481))))) else (none)) else (if t476 = 11 then (if bt478.2 = 0 then ((leap_Total.f kj4 l0_0 false 0 a1).bind fun t482 => (some (bt478.1 == (wrap64 ((wrap64 (86400 * (wrap64 (a1 - 730)))) + t482))))) else (none)) else (none))) else (if t474 = 11 then (if t476 = 0 then (if bt478.2 = 0 then ((leap_Total.f kj4 l0_0 false 0 a1).bind fun t483 => (some (bt478.1 == (wrap64 ((wrap64 (86400 * (wrap64 (a1 - 730)))) + t483))))) else (none)) else (if t476 = 11 then (if bt478.2 = 0 then ((leap_Total.f kj4 l0_0 false 0 a1).bind fun t484 => (some (bt478.1 == (wrap64 ((wrap64 (86400 * (wrap64 (a1 - 730)))) + t484))))) else (none)) else (none))) else (none))) else (none)) else (none)) else (none))) else (none)) else (none)))) = some r := H
          have A18 := Aside0.mk A180
          clear A180
          replace H := Option.bind_eq_some_iff.mp H
          obtain ⟨t477, A190, H⟩ := H
          replace H : ((scale_Tai.f kj4 t467 a1 0).bind fun bt478 => (if t461 = true then (if t472 = 0 then ((leap_Length.f l0_0 false 0 a1).bind fun t480 => (if t471 = t480 then (if ((t474 == 0) == (t477 == 1)) = true then (if ((t476 == 0) == (t477 != (-1))) = true then (if t474 = 0 then (if t476 = 0 then (if bt478.2 = 0 then ((leap_Total.f kj4 l0_0 false 0 a1).bind fun t481 => (some (bt478.1 == (wrap64 ((wrap64 (86400 * (wrap64 (a1 - 730)))) + t481))))) else (none)) else (if t476 = 11 then (if bt478.2 = 0 then ((leap_Total.f kj4 l0_0 false 0 a1).bind fun t482 => (some (bt478.1 == (wrap64 ((wrap64 (86400 * (wrap64 (a1 - 730)))) + t482))))) else (none)) else (none))) else (if t474 = 11 then (if t476 = 0 then (if bt478.2 = 0 then ((leap_Total.f kj4 l0_0 false 0 a1).bind fun t483 => (some (bt478.1 == (wrap64 ((wrap64 (86400 * (wrap64 (a1 - 730)))) + t483))))) else (none)) else (if t476 = 11 then (if bt478.2 = 0 then ((leap_Total.f kj4 l0_0 false 0 a1).bind fun t484 => (some (bt478.1 == (wrap64 ((wrap64 (86400 * (wrap64 (a1 - 730)))) + t484))))) else (none)) else (none))) else (none))) else (none)) else (none)) else (none))) else (none)) else (none))) = some r := H
          have A19 := Aside0.mk A190
          clear A190
          replace H := Option.bind_eq_some_iff.mp H
          obtain ⟨⟨t478, t479⟩, A200, H⟩ := H
          replace H : (if t461 = true then (if t472 = 0 then ((leap_Length.f l0_0 false 0 a1).bind fun t480 => (if t471 = t480 then (if ((t474 == 0) == (t477 == 1)) = true then (if ((t476 == 0) == (t477 != (-1))) = true then (if t474 = 0 then (if t476 = 0 then (if t479 = 0 then ((leap_Total.f kj4 l0_0 false 0 a1).bind fun t481 => (some (t478 == (wrap64 ((wrap64 (86400 * (wrap64 (a1 - 730)))) + t481))))) else (none)) else (if t476 = 11 then (if t479 = 0 then ((leap_Total.f kj4 l0_0 false 0 a1).bind fun t482 => (some (t478 == (wrap64 ((wrap64 (86400 * (wrap64 (a1 - 730)))) + t482))))) else (none)) else (none))) else (if t474 = 11 then (if t476 = 0 then (if t479 = 0 then ((leap_Total.f kj4 l0_0 false 0 a1).bind fun t483 => (some (t478 == (wrap64 ((wrap64 (86400 * (wrap64 (a1 - 730)))) + t483))))) else (none)) else (if t476 = 11 then (if t479 = 0 then ((leap_Total.f kj4 l0_0 false 0 a1).bind fun t484 => (some (t478 == (wrap64 ((wrap64 (86400 * (wrap64 (a1 - 730)))) + t484))))) else (none)) else (none))) else (none))) else (none)) else (none)) else (none))) else (none)) else (none)) = some r := H
          have A20 := Aside0.mk A200
          clear A200
          by_cases c21 : t461 = true
          · subst c21
            have H1 : (if t472 = 0 then ((leap_Length.f l0_0 false 0 a1).bind fun t480 => (if t471 = t480 then (if ((t474 == 0) == (t477 == 1)) = true then (if ((t476 == 0) == (t477 != (-1))) = true then (if t474 = 0 then (if t476 = 0 then (if t479 = 0 then ((leap_Total.f kj4 l0_0 false 0 a1).bind fun t481 => (some (t478 == (wrap64 ((wrap64 (86400 * (wrap64 (a1 - 730)))) + t481))))) else (none)) else (if t476 = 11 then (if t479 = 0 then ((leap_Total.f kj4 l0_0 false 0 a1).bind fun t482 => (some (t478 == (wrap64 ((wrap64 (86400 * (wrap64 (a1 - 730)))) + t482))))) else (none)) else (none))) else (if t474 = 11 then (if t476 = 0 then (if t479 = 0 then ((leap_Total.f kj4 l0_0 false 0 a1).bind fun t483 => (some (t478 == (wrap64 ((wrap64 (86400 * (wrap64 (a1 - 730)))) + t483))))) else (none)) else (if t476 = 11 then (if t479 = 0 then ((leap_Total.f kj4 l0_0 false 0 a1).bind fun t484 => (some (t478 == (wrap64 ((wrap64 (86400 * (wrap64 (a1 - 730)))) + t484))))) else (none)) else (none))) else (none))) else (none)) else (none)) else (none))) else (none)) = some r := by rw [if_pos rfl] at H; exact H
            clear H
            have H := H1
            clear H1
            by_cases c22 : t472 = 0
            · rw [if_pos c22] at H
              have c22b0 : (t472 == 0) = true := beq_iff_eq.mpr c22
              have c22b1 : (t472 != 0) = false := bne_eq_false_iff_eq.mpr c22
              clear c22
              replace H := Option.bind_eq_some_iff.mp H
              obtain ⟨t480, A230, H⟩ := H
              replace H : (if t471 = t480 then (if ((t474 == 0) == (t477 == 1)) = true then (if ((t476 == 0) == (t477 != (-1))) = true then (if t474 = 0 then (if t476 = 0 then (if t479 = 0 then ((leap_Total.f kj4 l0_0 false 0 a1).bind fun t481 => (some (t478 == (wrap64 ((wrap64 (86400 * (wrap64 (a1 - 730)))) + t481))))) else (none)) else (if t476 = 11 then (if t479 = 0 then ((leap_Total.f kj4 l0_0 false 0 a1).bind fun t482 => (some (t478 == (wrap64 ((wrap64 (86400 * (wrap64 (a1 - 730)))) + t482))))) else (none)) else (none))) else (if t474 = 11 then (if t476 = 0 then (if t479 = 0 then ((leap_Total.f kj4 l0_0 false 0 a1).bind fun t483 => (some (t478 == (wrap64 ((wrap64 (86400 * (wrap64 (a1 - 730)))) + t483))))) else (none)) else (if t476 = 11 then (if t479 = 0 then ((leap_Total.f kj4 l0_0 false 0 a1).bind fun t484 => (some (t478 == (wrap64 ((wrap64 (86400 * (wrap64 (a1 - 730)))) + t484))))) else (none)) else (none))) else (none))) else (none)) else (none)) else (none)) = some r := H
              have A23 := Aside0.mk A230
              clear A230
              by_cases c24 : t471 = t480
              · rw [if_pos c24] at H
                have c24b0 : (t471 == t480) = true := beq_iff_eq.mpr c24
                have c24b1 : (t471 != t480) = false := bne_eq_false_iff_eq.mpr c24
                clear c24
                by_cases c25 : ((t474 == 0) == (t477 == 1)) = true
                · rw [if_pos c25] at H
                  have c25b0 : ((t474 == 0) == (t477 == 1)) = true := c25
                  have c25b0e : (t477 == 1) = (t474 == 0) := (beq_iff_eq.mp c25b0).symm
                  (try (have c25b1 : decide ((t474 == 0) = (t477 == 1)) = true := by first | (simp; done) | (simp at c25; done) | simpa using c25))
                  (try (have c25b2 : ((t474 == 0) == (t477 == 1)) = true := by first | (simp; done) | (simp at c25; done) | simpa using c25))
                  clear c25
                  by_cases c26 : ((t476 == 0) == (t477 != (-1))) = true
                  · rw [if_pos c26] at H
                    have c26b0 : ((t476 == 0) == (t477 != (-1))) = true := c26
                    have c26b0e : (t477 != (-1)) = (t476 == 0) := (beq_iff_eq.mp c26b0).symm
                    (try (have c26b1 : decide ((t476 == 0) = (t477 != (-1))) = true := by first | (simp; done) | (simp at c26; done) | simpa using c26))
                    (try (have c26b2 : ((t476 == 0) == (t477 != (-1))) = true := by first | (simp; done) | (simp at c26; done) | simpa using c26))
                    clear c26
                    by_cases c27 : t474 = 0
                    · rw [if_pos c27] at H
                      have c27b0 : (t474 == 0) = true := beq_iff_eq.mpr c27
                      have c27b1 : (t474 != 0) = false := bne_eq_false_iff_eq.mpr c27
                      clear c27
                      by_cases c28 : t476 = 0
                      · rw [if_pos c28] at H
                        have c28b0 : (t476 == 0) = true := beq_iff_eq.mpr c28
                        have c28b1 : (t476 != 0) = false := bne_eq_false_iff_eq.mpr c28
                        clear c28
                        by_cases c29 : t479 = 0
                        · rw [if_pos c29] at H
                          have c29b0 : (t479 == 0) = true := beq_iff_eq.mpr c29
                          have c29b1 : (t479 != 0) = false := bne_eq_false_iff_eq.mpr c29
                          clear c29
                          replace H := Option.bind_eq_some_iff.mp H
                          obtain ⟨t481, A300, H⟩ := H
                          replace H : (some (t478 == (wrap64 ((wrap64 (86400 * (wrap64 (a1 - 730)))) + t481)))) = some r := H
                          have A30 := Aside0.mk A300
                          clear A300
                          obtain rfl := Option.some.inj H
                          have hcz31_0 : wc.cell? ⟨gb460, 0, none⟩ = some (.slice A0_0 l0_0.length c0_0) := (blk_cell BK460.out 0).trans rfl
                          have hcz31_1 : wc.cell? ⟨gb460, 1, none⟩ = some (.bool a0_1) := (blk_cell BK460.out 1).trans rfl
                          have hcz31_2 : wc.cell? ⟨gb460, 2, none⟩ = some (.int .i64 a0_2) := (blk_cell BK460.out 2).trans rfl
                          have hfz31_0 := blk_frozen BK460.out 0
                          have hfz31_1 := blk_frozen BK460.out 1
                          have hfz31_2 := blk_frozen BK460.out 2
                          go_wp2_with (first | ((with_reducible refine gate_callee (f := 21) rfl ?_); refine goesL_ (some 36) rfl rfl Try.func21 (by kernel_rfl) rfl #[.agg #[.slice A0_0 l0_0.length c0_0, .bool a0_1, .int .i64 a0_2]] rfl (by (try simp only [List.map_toArray, List.map_cons, List.map_nil]); first | done | rfl | (simp only [List.length_drop, List.length_take]; rfl)) ?_; (with_reducible refine (record_Records.calls kj4 _ _ l0_0 a0_1 a0_2 t463 true _ ?side1 ?side2 A13.out).mono ?_); (case side1 => repeat (first | exact (Kd.C_below HR0_0.out HB.out) | (with_reducible refine Kd.C_alloc ?_ _) | (with_reducible refine Kd.C_drewN ?_ _) | (with_reducible refine Kd.C_drew ?_))); (case side2 => exact HC0_0.out); rintro e w32 ⟨v464, rfl, ho0, hb⟩; refine ⟨_, rfl, ?_⟩; have n0_ := Aside0.mk (Kd.R_lower ho0 (below_size (by repeat (first | (with_reducible first | exact HB.out | apply below_alloc | apply pw_below_drewN | apply below_drew1 | refine below_set ?_ GE460.out) | exact HB.out)))); have n1_ := Aside0.mk (blk_below (g := gb460) (o := .cells #[.slice A0_0 l0_0.length c0_0, .bool a0_1, .int .i64 a0_2] 38 (0, 0)) (by (with_reducible repeat (first | refine blk_drewN ?_ _ | refine blk_drew ?_ | refine blk_alloc ?_ _)); exact BK460.out) hb); have n2_ := Aside0.mk (below_step (by repeat (first | (with_reducible first | exact HB.out | apply below_alloc | apply pw_below_drewN | apply below_drew1 | refine below_set ?_ GE460.out) | exact HB.out)) hb); clear BK460; clear HB; have HO465 := n0_; have BK460 := n1_; have HB := n2_; clear n0_ n1_ n2_; (try clear hb); (try clear hb2); (try clear hk); (try clear hi); (try clear ho0); have hcz33_0 : w32.cell? ⟨gb460, 0, none⟩ = some (.slice A0_0 l0_0.length c0_0) := (blk_cell BK460.out 0).trans rfl; have hcz33_1 : w32.cell? ⟨gb460, 1, none⟩ = some (.bool a0_1) := (blk_cell BK460.out 1).trans rfl; have hcz33_2 : w32.cell? ⟨gb460, 2, none⟩ = some (.int .i64 a0_2) := (blk_cell BK460.out 2).trans rfl; have hfz33_0 := blk_frozen BK460.out 0; have hfz33_1 := blk_frozen BK460.out 1; have hfz33_2 := blk_frozen BK460.out 2) | ((with_reducible refine gate_callee (f := 21) rfl ?_); refine goesL_ (some 46) rfl rfl Try.func21 (by kernel_rfl) rfl #[.agg #[.slice A0_0 l0_0.length c0_0, .bool false, .int .i64 0]] rfl (by (try simp only [List.map_toArray, List.map_cons, List.map_nil]); first | done | rfl | (simp only [List.length_drop, List.length_take]; rfl)) ?_; (with_reducible refine (record_Records.calls kj4 _ _ l0_0 false 0 t467 t470 _ ?side1 ?side2 A15.out).mono ?_); (case side1 => exact Kd.C_below HR0_0.out (by repeat (first | (with_reducible first | exact HB.out | apply below_alloc | apply pw_below_drewN | apply below_drew1 | refine below_set ?_ GE460.out) | exact HB.out))); (case side2 => exact HC0_0.out); rintro e w34 ⟨v468, rfl, ho0, hb⟩; refine ⟨_, rfl, ?_⟩; have n0_ := Aside0.mk (Kd.R_elder' (by (with_reducible repeat (first | apply Kd.R_alloc | apply Kd.R_drewN | apply Kd.R_drew)); exact (Kd.R_mono (Kd.R_far (p := ⟨gb460, 2, none⟩) (Kd.R_far (p := ⟨gb460, 1, none⟩) (Kd.R_types HO465.out BK460.out (by decide)) (fun _ hk => hk.2) (.bool false)) (fun _ hk => hk.2) (.int .i64 0)) (fun _ h_ => h_.1))) (Kd.R_base ho0) hb); have n1_ := Aside0.mk (Kd.R_lower (Kd.R_new' ho0 (Kd.R_lt (by (with_reducible repeat (first | apply Kd.R_alloc | apply Kd.R_drewN | apply Kd.R_drew)); exact (Kd.R_mono (Kd.R_far (p := ⟨gb460, 2, none⟩) (Kd.R_far (p := ⟨gb460, 1, none⟩) (Kd.R_types HO465.out BK460.out (by decide)) (fun _ hk => hk.2) (.bool false)) (fun _ hk => hk.2) (.int .i64 0)) (fun _ h_ => h_.1))))) (below_size (by repeat (first | (with_reducible first | exact HB.out | apply below_alloc | apply pw_below_drewN | apply below_drew1 | refine below_set ?_ GE460.out) | exact HB.out)))); have n2_ := Aside0.mk (blk_below (g := gb460) (o := .cells #[.slice A0_0 l0_0.length c0_0, .bool false, .int .i64 0] 38 (0, 0)) (by (with_reducible repeat (first | refine blk_drewN ?_ _ | refine blk_drew ?_ | refine blk_alloc ?_ _)); refine blk_put (cs := #[.slice A0_0 l0_0.length c0_0, .bool false, .int .i64 a0_2]) ?_ 2 _ rfl; (with_reducible repeat (first | refine blk_drewN ?_ _ | refine blk_drew ?_ | refine blk_alloc ?_ _)); refine blk_put (cs := #[.slice A0_0 l0_0.length c0_0, .bool a0_1, .int .i64 a0_2]) ?_ 1 _ rfl; (with_reducible repeat (first | refine blk_drewN ?_ _ | refine blk_drew ?_ | refine blk_alloc ?_ _)); exact BK460.out) hb); have n3_ := Aside0.mk (below_step (by repeat (first | (with_reducible first | exact HB.out | apply below_alloc | apply pw_below_drewN | apply below_drew1 | refine below_set ?_ GE460.out) | exact HB.out)) hb); clear HO465; clear BK460; clear HB; have HO465 := n0_; have HO469 := n1_; have BK460 := n2_; have HB := n3_; clear n0_ n1_ n2_ n3_; (try clear hb); (try clear hb2); (try clear hk); (try clear hi); (try clear ho0); obtain ⟨Ao35, co35, eo35⟩ := Kd.R_slice HO465.out; subst eo35) | ((with_reducible refine gate_callee (f := 14) rfl ?_); refine goesL_ (some 52) rfl rfl Try.func14 (by kernel_rfl) rfl #[.slice Ao35 t463.length co35, .int .i64 a1] rfl (by (try simp only [List.map_toArray, List.map_cons, List.map_nil]); first | done | rfl | (simp only [List.length_drop, List.length_take]; rfl)) ?_; (with_reducible refine (scale_Length.calls kj4 _ _ t463 a1 t471 t472 _ ?side1 ?side2 A16.out).mono ?_); (case side1 => repeat (first | exact (Kd.R_reads' HO465.out).2.2 | (with_reducible refine Kd.C_alloc ?_ _) | (with_reducible refine Kd.C_drewN ?_ _) | (with_reducible refine Kd.C_drew ?_))); (case side2 => exact (Kd.R_reads' HO465.out).2.1); rintro e w36 ⟨rfl, hb⟩; refine ⟨_, rfl, ?_⟩; have n0_ := Aside0.mk (Kd.R_below (by (with_reducible repeat (first | apply Kd.R_alloc | apply Kd.R_drewN | apply Kd.R_drew)); exact HO465.out) hb); have n1_ := Aside0.mk (Kd.R_below (by (with_reducible repeat (first | apply Kd.R_alloc | apply Kd.R_drewN | apply Kd.R_drew)); exact HO469.out) hb); have n2_ := Aside0.mk (blk_below (g := gb460) (o := .cells #[.slice A0_0 l0_0.length c0_0, .bool false, .int .i64 0] 38 (0, 0)) (by (with_reducible repeat (first | refine blk_drewN ?_ _ | refine blk_drew ?_ | refine blk_alloc ?_ _)); exact BK460.out) hb); have n3_ := Aside0.mk (below_step (by repeat (first | (with_reducible first | exact HB.out | apply below_alloc | apply pw_below_drewN | apply below_drew1 | refine below_set ?_ GE460.out) | exact HB.out)) hb); clear HO465; clear HO469; clear BK460; clear HB; have HO465 := n0_; have HO469 := n1_; have BK460 := n2_; have HB := n3_; clear n0_ n1_ n2_ n3_; (try clear hb); (try clear hb2); (try clear hk); (try clear hi); obtain ⟨Ao37, co37, eo37⟩ := Kd.R_slice HO469.out; subst eo37) | ((with_reducible refine gate_callee (f := 12) rfl ?_); refine goesL_ (some 58) rfl rfl Try.func12 (by kernel_rfl) rfl #[.slice Ao37 t467.length co37, .int .i64 a1, .int .i64 86400] rfl (by (try simp only [List.map_toArray, List.map_cons, List.map_nil]); first | done | rfl | (simp only [List.length_drop, List.length_take]; rfl)) ?_; (with_reducible refine (scale_Tai.calls kj4 _ _ t467 a1 86400 t473 t474 _ ?side1 ?side2 A17.out).mono ?_); (case side1 => repeat (first | exact (Kd.R_reads' HO469.out).2.2 | (with_reducible refine Kd.C_alloc ?_ _) | (with_reducible refine Kd.C_drewN ?_ _) | (with_reducible refine Kd.C_drew ?_))); (case side2 => exact (Kd.R_reads' HO469.out).2.1); rintro e w38 ⟨rfl, hb⟩; refine ⟨_, rfl, ?_⟩; have n0_ := Aside0.mk (Kd.R_below (by (with_reducible repeat (first | apply Kd.R_alloc | apply Kd.R_drewN | apply Kd.R_drew)); exact HO465.out) hb); have n1_ := Aside0.mk (Kd.R_below (by (with_reducible repeat (first | apply Kd.R_alloc | apply Kd.R_drewN | apply Kd.R_drew)); exact HO469.out) hb); have n2_ := Aside0.mk (blk_below (g := gb460) (o := .cells #[.slice A0_0 l0_0.length c0_0, .bool false, .int .i64 0] 38 (0, 0)) (by (with_reducible repeat (first | refine blk_drewN ?_ _ | refine blk_drew ?_ | refine blk_alloc ?_ _)); exact BK460.out) hb); have n3_ := Aside0.mk (below_step (by repeat (first | (with_reducible first | exact HB.out | apply below_alloc | apply pw_below_drewN | apply below_drew1 | refine below_set ?_ GE460.out) | exact HB.out)) hb); clear HO465; clear HO469; clear BK460; clear HB; have HO465 := n0_; have HO469 := n1_; have BK460 := n2_; have HB := n3_; clear n0_ n1_ n2_ n3_; (try clear hb); (try clear hb2); (try clear hk); (try clear hi)) | ((with_reducible refine gate_callee (f := 12) rfl ?_); refine goesL_ (some 64) rfl rfl Try.func12 (by kernel_rfl) rfl #[.slice Ao37 t467.length co37, .int .i64 a1, .int .i64 86399] rfl (by (try simp only [List.map_toArray, List.map_cons, List.map_nil]); first | done | rfl | (simp only [List.length_drop, List.length_take]; rfl)) ?_; (with_reducible refine (scale_Tai.calls kj4 _ _ t467 a1 86399 t475 t476 _ ?side1 ?side2 A18.out).mono ?_); (case side1 => repeat (first | exact (Kd.R_reads' HO469.out).2.2 | (with_reducible refine Kd.C_alloc ?_ _) | (with_reducible refine Kd.C_drewN ?_ _) | (with_reducible refine Kd.C_drew ?_))); (case side2 => exact (Kd.R_reads' HO469.out).2.1); rintro e w39 ⟨rfl, hb⟩; refine ⟨_, rfl, ?_⟩; have n0_ := Aside0.mk (Kd.R_below (by (with_reducible repeat (first | apply Kd.R_alloc | apply Kd.R_drewN | apply Kd.R_drew)); exact HO465.out) hb); have n1_ := Aside0.mk (Kd.R_below (by (with_reducible repeat (first | apply Kd.R_alloc | apply Kd.R_drewN | apply Kd.R_drew)); exact HO469.out) hb); have n2_ := Aside0.mk (blk_below (g := gb460) (o := .cells #[.slice A0_0 l0_0.length c0_0, .bool false, .int .i64 0] 38 (0, 0)) (by (with_reducible repeat (first | refine blk_drewN ?_ _ | refine blk_drew ?_ | refine blk_alloc ?_ _)); exact BK460.out) hb); have n3_ := Aside0.mk (below_step (by repeat (first | (with_reducible first | exact HB.out | apply below_alloc | apply pw_below_drewN | apply below_drew1 | refine below_set ?_ GE460.out) | exact HB.out)) hb); clear HO465; clear HO469; clear BK460; clear HB; have HO465 := n0_; have HO469 := n1_; have BK460 := n2_; have HB := n3_; clear n0_ n1_ n2_ n3_; (try clear hb); (try clear hb2); (try clear hk); (try clear hi); have hcz40_0 : w39.cell? ⟨gb460, 0, none⟩ = some (.slice A0_0 l0_0.length c0_0) := (blk_cell BK460.out 0).trans rfl; have hcz40_1 : w39.cell? ⟨gb460, 1, none⟩ = some (.bool false) := (blk_cell BK460.out 1).trans rfl; have hcz40_2 : w39.cell? ⟨gb460, 2, none⟩ = some (.int .i64 0) := (blk_cell BK460.out 2).trans rfl; have hfz40_0 := blk_frozen BK460.out 0; have hfz40_1 := blk_frozen BK460.out 1; have hfz40_2 := blk_frozen BK460.out 2) | ((with_reducible refine gate_callee (f := 22) rfl ?_); refine goesL_ (some 69) rfl rfl Try.func22 (by kernel_rfl) rfl #[.agg #[.slice A0_0 l0_0.length c0_0, .bool false, .int .i64 0], .int .i64 a1] rfl (by (try simp only [List.map_toArray, List.map_cons, List.map_nil]); first | done | rfl | (simp only [List.length_drop, List.length_take]; rfl)) ?_; (with_reducible refine (leap_Step.calls _ _ l0_0 false 0 a1 t477 _ ?side1 ?side2 A19.out).mono ?_); (case side1 => repeat (first | exact (Kd.C_below HR0_0.out HB.out) | (with_reducible refine Kd.C_alloc ?_ _) | (with_reducible refine Kd.C_drewN ?_ _) | (with_reducible refine Kd.C_drew ?_))); (case side2 => exact HC0_0.out); rintro e w41 ⟨rfl, hb⟩; refine ⟨_, rfl, ?_⟩; have n0_ := Aside0.mk (Kd.R_below (by (with_reducible repeat (first | apply Kd.R_alloc | apply Kd.R_drewN | apply Kd.R_drew)); exact HO465.out) hb); have n1_ := Aside0.mk (Kd.R_below (by (with_reducible repeat (first | apply Kd.R_alloc | apply Kd.R_drewN | apply Kd.R_drew)); exact HO469.out) hb); have n2_ := Aside0.mk (blk_below (g := gb460) (o := .cells #[.slice A0_0 l0_0.length c0_0, .bool false, .int .i64 0] 38 (0, 0)) (by (with_reducible repeat (first | refine blk_drewN ?_ _ | refine blk_drew ?_ | refine blk_alloc ?_ _)); exact BK460.out) hb); have n3_ := Aside0.mk (below_step (by repeat (first | (with_reducible first | exact HB.out | apply below_alloc | apply pw_below_drewN | apply below_drew1 | refine below_set ?_ GE460.out) | exact HB.out)) hb); clear HO465; clear HO469; clear BK460; clear HB; have HO465 := n0_; have HO469 := n1_; have BK460 := n2_; have HB := n3_; clear n0_ n1_ n2_ n3_; (try clear hb); (try clear hb2); (try clear hk); (try clear hi)) | ((with_reducible refine gate_callee (f := 12) rfl ?_); refine goesL_ (some 73) rfl rfl Try.func12 (by kernel_rfl) rfl #[.slice Ao37 t467.length co37, .int .i64 a1, .int .i64 0] rfl (by (try simp only [List.map_toArray, List.map_cons, List.map_nil]); first | done | rfl | (simp only [List.length_drop, List.length_take]; rfl)) ?_; (with_reducible refine (scale_Tai.calls kj4 _ _ t467 a1 0 t478 t479 _ ?side1 ?side2 A20.out).mono ?_); (case side1 => repeat (first | exact (Kd.R_reads' HO469.out).2.2 | (with_reducible refine Kd.C_alloc ?_ _) | (with_reducible refine Kd.C_drewN ?_ _) | (with_reducible refine Kd.C_drew ?_))); (case side2 => exact (Kd.R_reads' HO469.out).2.1); rintro e w42 ⟨rfl, hb⟩; refine ⟨_, rfl, ?_⟩; have n0_ := Aside0.mk (Kd.R_below (by (with_reducible repeat (first | apply Kd.R_alloc | apply Kd.R_drewN | apply Kd.R_drew)); exact HO465.out) hb); have n1_ := Aside0.mk (Kd.R_below (by (with_reducible repeat (first | apply Kd.R_alloc | apply Kd.R_drewN | apply Kd.R_drew)); exact HO469.out) hb); have n2_ := Aside0.mk (blk_below (g := gb460) (o := .cells #[.slice A0_0 l0_0.length c0_0, .bool false, .int .i64 0] 38 (0, 0)) (by (with_reducible repeat (first | refine blk_drewN ?_ _ | refine blk_drew ?_ | refine blk_alloc ?_ _)); exact BK460.out) hb); have n3_ := Aside0.mk (below_step (by repeat (first | (with_reducible first | exact HB.out | apply below_alloc | apply pw_below_drewN | apply below_drew1 | refine below_set ?_ GE460.out) | exact HB.out)) hb); clear HO465; clear HO469; clear BK460; clear HB; have HO465 := n0_; have HO469 := n1_; have BK460 := n2_; have HB := n3_; clear n0_ n1_ n2_ n3_; (try clear hb); (try clear hb2); (try clear hk); (try clear hi); have hcz43_0 : w42.cell? ⟨gb460, 0, none⟩ = some (.slice A0_0 l0_0.length c0_0) := (blk_cell BK460.out 0).trans rfl; have hcz43_1 : w42.cell? ⟨gb460, 1, none⟩ = some (.bool false) := (blk_cell BK460.out 1).trans rfl; have hcz43_2 : w42.cell? ⟨gb460, 2, none⟩ = some (.int .i64 0) := (blk_cell BK460.out 2).trans rfl; have hfz43_0 := blk_frozen BK460.out 0; have hfz43_1 := blk_frozen BK460.out 1; have hfz43_2 := blk_frozen BK460.out 2) | (go_at_call 23; (with_reducible refine (leap_Length.calls _ _ l0_0 false 0 a1 t480 _ ?side1 ?side2 A23.out).mono ?_); (case side1 => repeat (first | exact (Kd.C_below HR0_0.out HB.out) | (with_reducible refine Kd.C_alloc ?_ _) | (with_reducible refine Kd.C_drewN ?_ _) | (with_reducible refine Kd.C_drew ?_))); (case side2 => exact HC0_0.out); rintro e w44 ⟨rfl, hb⟩; have n0_ := Aside0.mk (Kd.R_below (by (with_reducible repeat (first | apply Kd.R_alloc | apply Kd.R_drewN | apply Kd.R_drew)); exact HO465.out) hb); have n1_ := Aside0.mk (Kd.R_below (by (with_reducible repeat (first | apply Kd.R_alloc | apply Kd.R_drewN | apply Kd.R_drew)); exact HO469.out) hb); have n2_ := Aside0.mk (blk_below (g := gb460) (o := .cells #[.slice A0_0 l0_0.length c0_0, .bool false, .int .i64 0] 38 (0, 0)) (by (with_reducible repeat (first | refine blk_drewN ?_ _ | refine blk_drew ?_ | refine blk_alloc ?_ _)); exact BK460.out) hb); have n3_ := Aside0.mk (below_step (by repeat (first | (with_reducible first | exact HB.out | apply below_alloc | apply pw_below_drewN | apply below_drew1 | refine below_set ?_ GE460.out) | exact HB.out)) hb); clear HO465; clear HO469; clear BK460; clear HB; have HO465 := n0_; have HO469 := n1_; have BK460 := n2_; have HB := n3_; clear n0_ n1_ n2_ n3_; (try clear hb); (try clear hb2); (try clear hk); (try clear hi); have hcz45_0 : w44.cell? ⟨gb460, 0, none⟩ = some (.slice A0_0 l0_0.length c0_0) := (blk_cell BK460.out 0).trans rfl; have hcz45_1 : w44.cell? ⟨gb460, 1, none⟩ = some (.bool false) := (blk_cell BK460.out 1).trans rfl; have hcz45_2 : w44.cell? ⟨gb460, 2, none⟩ = some (.int .i64 0) := (blk_cell BK460.out 2).trans rfl; have hfz45_0 := blk_frozen BK460.out 0; have hfz45_1 := blk_frozen BK460.out 1; have hfz45_2 := blk_frozen BK460.out 2) | (go_at_call 24; (with_reducible refine (leap_Total.calls kj4 _ _ l0_0 false 0 a1 t481 _ ?side1 ?side2 A30.out).mono ?_); (case side1 => repeat (first | exact (Kd.C_below HR0_0.out HB.out) | (with_reducible refine Kd.C_alloc ?_ _) | (with_reducible refine Kd.C_drewN ?_ _) | (with_reducible refine Kd.C_drew ?_))); (case side2 => exact HC0_0.out); rintro e w46 ⟨rfl, hb⟩; have n0_ := Aside0.mk (Kd.R_below (by (with_reducible repeat (first | apply Kd.R_alloc | apply Kd.R_drewN | apply Kd.R_drew)); exact HO465.out) hb); have n1_ := Aside0.mk (Kd.R_below (by (with_reducible repeat (first | apply Kd.R_alloc | apply Kd.R_drewN | apply Kd.R_drew)); exact HO469.out) hb); have n2_ := Aside0.mk (blk_below (g := gb460) (o := .cells #[.slice A0_0 l0_0.length c0_0, .bool false, .int .i64 0] 38 (0, 0)) (by (with_reducible repeat (first | refine blk_drewN ?_ _ | refine blk_drew ?_ | refine blk_alloc ?_ _)); exact BK460.out) hb); have n3_ := Aside0.mk (below_step (by repeat (first | (with_reducible first | exact HB.out | apply below_alloc | apply pw_below_drewN | apply below_drew1 | refine below_set ?_ GE460.out) | exact HB.out)) hb); clear HO465; clear HO469; clear BK460; clear HB; have HO465 := n0_; have HO469 := n1_; have BK460 := n2_; have HB := n3_; clear n0_ n1_ n2_ n3_; (try clear hb); (try clear hb2); (try clear hk); (try clear hi)))
                          go_ret
                          exact ⟨by first | rfl | (simp [errW_none, errW_some] <;> rfl) | (simp [*, errW_none, errW_some] <;> rfl), by repeat (first | (with_reducible first | exact HB.out | apply below_alloc | apply pw_below_drewN | apply below_drew1 | refine below_set ?_ GE460.out) | exact HB.out)⟩
                        · rw [if_neg c29] at H
                          exact absurd H (by simp)
                      · rw [if_neg c28] at H
                        have c28b0 : (t476 == 0) = false := beq_eq_false_iff_ne.mpr c28
                        have c28b1 : (t476 != 0) = true := bne_iff_ne.mpr c28
                        by_cases c47 : t476 = 11
                        · rw [if_pos c47] at H
                          have c47b0 : (t476 == 11) = true := beq_iff_eq.mpr c47
                          have c47b1 : (t476 != 11) = false := bne_eq_false_iff_eq.mpr c47
                          clear c47
                          by_cases c48 : t479 = 0
                          · rw [if_pos c48] at H
                            have c48b0 : (t479 == 0) = true := beq_iff_eq.mpr c48
                            have c48b1 : (t479 != 0) = false := bne_eq_false_iff_eq.mpr c48
                            clear c48
                            replace H := Option.bind_eq_some_iff.mp H
                            obtain ⟨t482, A490, H⟩ := H
                            replace H : (some (t478 == (wrap64 ((wrap64 (86400 * (wrap64 (a1 - 730)))) + t482)))) = some r := H
                            have A49 := Aside0.mk A490
                            clear A490
                            obtain rfl := Option.some.inj H
                            have hcz50_0 : wc.cell? ⟨gb460, 0, none⟩ = some (.slice A0_0 l0_0.length c0_0) := (blk_cell BK460.out 0).trans rfl
                            have hcz50_1 : wc.cell? ⟨gb460, 1, none⟩ = some (.bool a0_1) := (blk_cell BK460.out 1).trans rfl
                            have hcz50_2 : wc.cell? ⟨gb460, 2, none⟩ = some (.int .i64 a0_2) := (blk_cell BK460.out 2).trans rfl
                            have hfz50_0 := blk_frozen BK460.out 0
                            have hfz50_1 := blk_frozen BK460.out 1
                            have hfz50_2 := blk_frozen BK460.out 2
                            go_wp2_with (first | ((with_reducible refine gate_callee (f := 21) rfl ?_); refine goesL_ (some 36) rfl rfl Try.func21 (by kernel_rfl) rfl #[.agg #[.slice A0_0 l0_0.length c0_0, .bool a0_1, .int .i64 a0_2]] rfl (by (try simp only [List.map_toArray, List.map_cons, List.map_nil]); first | done | rfl | (simp only [List.length_drop, List.length_take]; rfl)) ?_; (with_reducible refine (record_Records.calls kj4 _ _ l0_0 a0_1 a0_2 t463 true _ ?side1 ?side2 A13.out).mono ?_); (case side1 => repeat (first | exact (Kd.C_below HR0_0.out HB.out) | (with_reducible refine Kd.C_alloc ?_ _) | (with_reducible refine Kd.C_drewN ?_ _) | (with_reducible refine Kd.C_drew ?_))); (case side2 => exact HC0_0.out); rintro e w51 ⟨v464, rfl, ho0, hb⟩; refine ⟨_, rfl, ?_⟩; have n0_ := Aside0.mk (Kd.R_lower ho0 (below_size (by repeat (first | (with_reducible first | exact HB.out | apply below_alloc | apply pw_below_drewN | apply below_drew1 | refine below_set ?_ GE460.out) | exact HB.out)))); have n1_ := Aside0.mk (blk_below (g := gb460) (o := .cells #[.slice A0_0 l0_0.length c0_0, .bool a0_1, .int .i64 a0_2] 38 (0, 0)) (by (with_reducible repeat (first | refine blk_drewN ?_ _ | refine blk_drew ?_ | refine blk_alloc ?_ _)); exact BK460.out) hb); have n2_ := Aside0.mk (below_step (by repeat (first | (with_reducible first | exact HB.out | apply below_alloc | apply pw_below_drewN | apply below_drew1 | refine below_set ?_ GE460.out) | exact HB.out)) hb); clear BK460; clear HB; have HO465 := n0_; have BK460 := n1_; have HB := n2_; clear n0_ n1_ n2_; (try clear hb); (try clear hb2); (try clear hk); (try clear hi); (try clear ho0); have hcz52_0 : w51.cell? ⟨gb460, 0, none⟩ = some (.slice A0_0 l0_0.length c0_0) := (blk_cell BK460.out 0).trans rfl; have hcz52_1 : w51.cell? ⟨gb460, 1, none⟩ = some (.bool a0_1) := (blk_cell BK460.out 1).trans rfl; have hcz52_2 : w51.cell? ⟨gb460, 2, none⟩ = some (.int .i64 a0_2) := (blk_cell BK460.out 2).trans rfl; have hfz52_0 := blk_frozen BK460.out 0; have hfz52_1 := blk_frozen BK460.out 1; have hfz52_2 := blk_frozen BK460.out 2) | ((with_reducible refine gate_callee (f := 21) rfl ?_); refine goesL_ (some 46) rfl rfl Try.func21 (by kernel_rfl) rfl #[.agg #[.slice A0_0 l0_0.length c0_0, .bool false, .int .i64 0]] rfl (by (try simp only [List.map_toArray, List.map_cons, List.map_nil]); first | done | rfl | (simp only [List.length_drop, List.length_take]; rfl)) ?_; (with_reducible refine (record_Records.calls kj4 _ _ l0_0 false 0 t467 t470 _ ?side1 ?side2 A15.out).mono ?_); (case side1 => exact Kd.C_below HR0_0.out (by repeat (first | (with_reducible first | exact HB.out | apply below_alloc | apply pw_below_drewN | apply below_drew1 | refine below_set ?_ GE460.out) | exact HB.out))); (case side2 => exact HC0_0.out); rintro e w53 ⟨v468, rfl, ho0, hb⟩; refine ⟨_, rfl, ?_⟩; have n0_ := Aside0.mk (Kd.R_elder' (by (with_reducible repeat (first | apply Kd.R_alloc | apply Kd.R_drewN | apply Kd.R_drew)); exact (Kd.R_mono (Kd.R_far (p := ⟨gb460, 2, none⟩) (Kd.R_far (p := ⟨gb460, 1, none⟩) (Kd.R_types HO465.out BK460.out (by decide)) (fun _ hk => hk.2) (.bool false)) (fun _ hk => hk.2) (.int .i64 0)) (fun _ h_ => h_.1))) (Kd.R_base ho0) hb); have n1_ := Aside0.mk (Kd.R_lower (Kd.R_new' ho0 (Kd.R_lt (by (with_reducible repeat (first | apply Kd.R_alloc | apply Kd.R_drewN | apply Kd.R_drew)); exact (Kd.R_mono (Kd.R_far (p := ⟨gb460, 2, none⟩) (Kd.R_far (p := ⟨gb460, 1, none⟩) (Kd.R_types HO465.out BK460.out (by decide)) (fun _ hk => hk.2) (.bool false)) (fun _ hk => hk.2) (.int .i64 0)) (fun _ h_ => h_.1))))) (below_size (by repeat (first | (with_reducible first | exact HB.out | apply below_alloc | apply pw_below_drewN | apply below_drew1 | refine below_set ?_ GE460.out) | exact HB.out)))); have n2_ := Aside0.mk (blk_below (g := gb460) (o := .cells #[.slice A0_0 l0_0.length c0_0, .bool false, .int .i64 0] 38 (0, 0)) (by (with_reducible repeat (first | refine blk_drewN ?_ _ | refine blk_drew ?_ | refine blk_alloc ?_ _)); refine blk_put (cs := #[.slice A0_0 l0_0.length c0_0, .bool false, .int .i64 a0_2]) ?_ 2 _ rfl; (with_reducible repeat (first | refine blk_drewN ?_ _ | refine blk_drew ?_ | refine blk_alloc ?_ _)); refine blk_put (cs := #[.slice A0_0 l0_0.length c0_0, .bool a0_1, .int .i64 a0_2]) ?_ 1 _ rfl; (with_reducible repeat (first | refine blk_drewN ?_ _ | refine blk_drew ?_ | refine blk_alloc ?_ _)); exact BK460.out) hb); have n3_ := Aside0.mk (below_step (by repeat (first | (with_reducible first | exact HB.out | apply below_alloc | apply pw_below_drewN | apply below_drew1 | refine below_set ?_ GE460.out) | exact HB.out)) hb); clear HO465; clear BK460; clear HB; have HO465 := n0_; have HO469 := n1_; have BK460 := n2_; have HB := n3_; clear n0_ n1_ n2_ n3_; (try clear hb); (try clear hb2); (try clear hk); (try clear hi); (try clear ho0); obtain ⟨Ao54, co54, eo54⟩ := Kd.R_slice HO465.out; subst eo54) | ((with_reducible refine gate_callee (f := 14) rfl ?_); refine goesL_ (some 52) rfl rfl Try.func14 (by kernel_rfl) rfl #[.slice Ao54 t463.length co54, .int .i64 a1] rfl (by (try simp only [List.map_toArray, List.map_cons, List.map_nil]); first | done | rfl | (simp only [List.length_drop, List.length_take]; rfl)) ?_; (with_reducible refine (scale_Length.calls kj4 _ _ t463 a1 t471 t472 _ ?side1 ?side2 A16.out).mono ?_); (case side1 => repeat (first | exact (Kd.R_reads' HO465.out).2.2 | (with_reducible refine Kd.C_alloc ?_ _) | (with_reducible refine Kd.C_drewN ?_ _) | (with_reducible refine Kd.C_drew ?_))); (case side2 => exact (Kd.R_reads' HO465.out).2.1); rintro e w55 ⟨rfl, hb⟩; refine ⟨_, rfl, ?_⟩; have n0_ := Aside0.mk (Kd.R_below (by (with_reducible repeat (first | apply Kd.R_alloc | apply Kd.R_drewN | apply Kd.R_drew)); exact HO465.out) hb); have n1_ := Aside0.mk (Kd.R_below (by (with_reducible repeat (first | apply Kd.R_alloc | apply Kd.R_drewN | apply Kd.R_drew)); exact HO469.out) hb); have n2_ := Aside0.mk (blk_below (g := gb460) (o := .cells #[.slice A0_0 l0_0.length c0_0, .bool false, .int .i64 0] 38 (0, 0)) (by (with_reducible repeat (first | refine blk_drewN ?_ _ | refine blk_drew ?_ | refine blk_alloc ?_ _)); exact BK460.out) hb); have n3_ := Aside0.mk (below_step (by repeat (first | (with_reducible first | exact HB.out | apply below_alloc | apply pw_below_drewN | apply below_drew1 | refine below_set ?_ GE460.out) | exact HB.out)) hb); clear HO465; clear HO469; clear BK460; clear HB; have HO465 := n0_; have HO469 := n1_; have BK460 := n2_; have HB := n3_; clear n0_ n1_ n2_ n3_; (try clear hb); (try clear hb2); (try clear hk); (try clear hi); obtain ⟨Ao56, co56, eo56⟩ := Kd.R_slice HO469.out; subst eo56) | ((with_reducible refine gate_callee (f := 12) rfl ?_); refine goesL_ (some 58) rfl rfl Try.func12 (by kernel_rfl) rfl #[.slice Ao56 t467.length co56, .int .i64 a1, .int .i64 86400] rfl (by (try simp only [List.map_toArray, List.map_cons, List.map_nil]); first | done | rfl | (simp only [List.length_drop, List.length_take]; rfl)) ?_; (with_reducible refine (scale_Tai.calls kj4 _ _ t467 a1 86400 t473 t474 _ ?side1 ?side2 A17.out).mono ?_); (case side1 => repeat (first | exact (Kd.R_reads' HO469.out).2.2 | (with_reducible refine Kd.C_alloc ?_ _) | (with_reducible refine Kd.C_drewN ?_ _) | (with_reducible refine Kd.C_drew ?_))); (case side2 => exact (Kd.R_reads' HO469.out).2.1); rintro e w57 ⟨rfl, hb⟩; refine ⟨_, rfl, ?_⟩; have n0_ := Aside0.mk (Kd.R_below (by (with_reducible repeat (first | apply Kd.R_alloc | apply Kd.R_drewN | apply Kd.R_drew)); exact HO465.out) hb); have n1_ := Aside0.mk (Kd.R_below (by (with_reducible repeat (first | apply Kd.R_alloc | apply Kd.R_drewN | apply Kd.R_drew)); exact HO469.out) hb); have n2_ := Aside0.mk (blk_below (g := gb460) (o := .cells #[.slice A0_0 l0_0.length c0_0, .bool false, .int .i64 0] 38 (0, 0)) (by (with_reducible repeat (first | refine blk_drewN ?_ _ | refine blk_drew ?_ | refine blk_alloc ?_ _)); exact BK460.out) hb); have n3_ := Aside0.mk (below_step (by repeat (first | (with_reducible first | exact HB.out | apply below_alloc | apply pw_below_drewN | apply below_drew1 | refine below_set ?_ GE460.out) | exact HB.out)) hb); clear HO465; clear HO469; clear BK460; clear HB; have HO465 := n0_; have HO469 := n1_; have BK460 := n2_; have HB := n3_; clear n0_ n1_ n2_ n3_; (try clear hb); (try clear hb2); (try clear hk); (try clear hi)) | ((with_reducible refine gate_callee (f := 12) rfl ?_); refine goesL_ (some 64) rfl rfl Try.func12 (by kernel_rfl) rfl #[.slice Ao56 t467.length co56, .int .i64 a1, .int .i64 86399] rfl (by (try simp only [List.map_toArray, List.map_cons, List.map_nil]); first | done | rfl | (simp only [List.length_drop, List.length_take]; rfl)) ?_; (with_reducible refine (scale_Tai.calls kj4 _ _ t467 a1 86399 t475 t476 _ ?side1 ?side2 A18.out).mono ?_); (case side1 => repeat (first | exact (Kd.R_reads' HO469.out).2.2 | (with_reducible refine Kd.C_alloc ?_ _) | (with_reducible refine Kd.C_drewN ?_ _) | (with_reducible refine Kd.C_drew ?_))); (case side2 => exact (Kd.R_reads' HO469.out).2.1); rintro e w58 ⟨rfl, hb⟩; refine ⟨_, rfl, ?_⟩; have n0_ := Aside0.mk (Kd.R_below (by (with_reducible repeat (first | apply Kd.R_alloc | apply Kd.R_drewN | apply Kd.R_drew)); exact HO465.out) hb); have n1_ := Aside0.mk (Kd.R_below (by (with_reducible repeat (first | apply Kd.R_alloc | apply Kd.R_drewN | apply Kd.R_drew)); exact HO469.out) hb); have n2_ := Aside0.mk (blk_below (g := gb460) (o := .cells #[.slice A0_0 l0_0.length c0_0, .bool false, .int .i64 0] 38 (0, 0)) (by (with_reducible repeat (first | refine blk_drewN ?_ _ | refine blk_drew ?_ | refine blk_alloc ?_ _)); exact BK460.out) hb); have n3_ := Aside0.mk (below_step (by repeat (first | (with_reducible first | exact HB.out | apply below_alloc | apply pw_below_drewN | apply below_drew1 | refine below_set ?_ GE460.out) | exact HB.out)) hb); clear HO465; clear HO469; clear BK460; clear HB; have HO465 := n0_; have HO469 := n1_; have BK460 := n2_; have HB := n3_; clear n0_ n1_ n2_ n3_; (try clear hb); (try clear hb2); (try clear hk); (try clear hi); have hcz59_0 : w58.cell? ⟨gb460, 0, none⟩ = some (.slice A0_0 l0_0.length c0_0) := (blk_cell BK460.out 0).trans rfl; have hcz59_1 : w58.cell? ⟨gb460, 1, none⟩ = some (.bool false) := (blk_cell BK460.out 1).trans rfl; have hcz59_2 : w58.cell? ⟨gb460, 2, none⟩ = some (.int .i64 0) := (blk_cell BK460.out 2).trans rfl; have hfz59_0 := blk_frozen BK460.out 0; have hfz59_1 := blk_frozen BK460.out 1; have hfz59_2 := blk_frozen BK460.out 2) | ((with_reducible refine gate_callee (f := 22) rfl ?_); refine goesL_ (some 69) rfl rfl Try.func22 (by kernel_rfl) rfl #[.agg #[.slice A0_0 l0_0.length c0_0, .bool false, .int .i64 0], .int .i64 a1] rfl (by (try simp only [List.map_toArray, List.map_cons, List.map_nil]); first | done | rfl | (simp only [List.length_drop, List.length_take]; rfl)) ?_; (with_reducible refine (leap_Step.calls _ _ l0_0 false 0 a1 t477 _ ?side1 ?side2 A19.out).mono ?_); (case side1 => repeat (first | exact (Kd.C_below HR0_0.out HB.out) | (with_reducible refine Kd.C_alloc ?_ _) | (with_reducible refine Kd.C_drewN ?_ _) | (with_reducible refine Kd.C_drew ?_))); (case side2 => exact HC0_0.out); rintro e w60 ⟨rfl, hb⟩; refine ⟨_, rfl, ?_⟩; have n0_ := Aside0.mk (Kd.R_below (by (with_reducible repeat (first | apply Kd.R_alloc | apply Kd.R_drewN | apply Kd.R_drew)); exact HO465.out) hb); have n1_ := Aside0.mk (Kd.R_below (by (with_reducible repeat (first | apply Kd.R_alloc | apply Kd.R_drewN | apply Kd.R_drew)); exact HO469.out) hb); have n2_ := Aside0.mk (blk_below (g := gb460) (o := .cells #[.slice A0_0 l0_0.length c0_0, .bool false, .int .i64 0] 38 (0, 0)) (by (with_reducible repeat (first | refine blk_drewN ?_ _ | refine blk_drew ?_ | refine blk_alloc ?_ _)); exact BK460.out) hb); have n3_ := Aside0.mk (below_step (by repeat (first | (with_reducible first | exact HB.out | apply below_alloc | apply pw_below_drewN | apply below_drew1 | refine below_set ?_ GE460.out) | exact HB.out)) hb); clear HO465; clear HO469; clear BK460; clear HB; have HO465 := n0_; have HO469 := n1_; have BK460 := n2_; have HB := n3_; clear n0_ n1_ n2_ n3_; (try clear hb); (try clear hb2); (try clear hk); (try clear hi)) | ((with_reducible refine gate_callee (f := 12) rfl ?_); refine goesL_ (some 73) rfl rfl Try.func12 (by kernel_rfl) rfl #[.slice Ao56 t467.length co56, .int .i64 a1, .int .i64 0] rfl (by (try simp only [List.map_toArray, List.map_cons, List.map_nil]); first | done | rfl | (simp only [List.length_drop, List.length_take]; rfl)) ?_; (with_reducible refine (scale_Tai.calls kj4 _ _ t467 a1 0 t478 t479 _ ?side1 ?side2 A20.out).mono ?_); (case side1 => repeat (first | exact (Kd.R_reads' HO469.out).2.2 | (with_reducible refine Kd.C_alloc ?_ _) | (with_reducible refine Kd.C_drewN ?_ _) | (with_reducible refine Kd.C_drew ?_))); (case side2 => exact (Kd.R_reads' HO469.out).2.1); rintro e w61 ⟨rfl, hb⟩; refine ⟨_, rfl, ?_⟩; have n0_ := Aside0.mk (Kd.R_below (by (with_reducible repeat (first | apply Kd.R_alloc | apply Kd.R_drewN | apply Kd.R_drew)); exact HO465.out) hb); have n1_ := Aside0.mk (Kd.R_below (by (with_reducible repeat (first | apply Kd.R_alloc | apply Kd.R_drewN | apply Kd.R_drew)); exact HO469.out) hb); have n2_ := Aside0.mk (blk_below (g := gb460) (o := .cells #[.slice A0_0 l0_0.length c0_0, .bool false, .int .i64 0] 38 (0, 0)) (by (with_reducible repeat (first | refine blk_drewN ?_ _ | refine blk_drew ?_ | refine blk_alloc ?_ _)); exact BK460.out) hb); have n3_ := Aside0.mk (below_step (by repeat (first | (with_reducible first | exact HB.out | apply below_alloc | apply pw_below_drewN | apply below_drew1 | refine below_set ?_ GE460.out) | exact HB.out)) hb); clear HO465; clear HO469; clear BK460; clear HB; have HO465 := n0_; have HO469 := n1_; have BK460 := n2_; have HB := n3_; clear n0_ n1_ n2_ n3_; (try clear hb); (try clear hb2); (try clear hk); (try clear hi); have hcz62_0 : w61.cell? ⟨gb460, 0, none⟩ = some (.slice A0_0 l0_0.length c0_0) := (blk_cell BK460.out 0).trans rfl; have hcz62_1 : w61.cell? ⟨gb460, 1, none⟩ = some (.bool false) := (blk_cell BK460.out 1).trans rfl; have hcz62_2 : w61.cell? ⟨gb460, 2, none⟩ = some (.int .i64 0) := (blk_cell BK460.out 2).trans rfl; have hfz62_0 := blk_frozen BK460.out 0; have hfz62_1 := blk_frozen BK460.out 1; have hfz62_2 := blk_frozen BK460.out 2) | (go_at_call 23; (with_reducible refine (leap_Length.calls _ _ l0_0 false 0 a1 t480 _ ?side1 ?side2 A23.out).mono ?_); (case side1 => repeat (first | exact (Kd.C_below HR0_0.out HB.out) | (with_reducible refine Kd.C_alloc ?_ _) | (with_reducible refine Kd.C_drewN ?_ _) | (with_reducible refine Kd.C_drew ?_))); (case side2 => exact HC0_0.out); rintro e w63 ⟨rfl, hb⟩; have n0_ := Aside0.mk (Kd.R_below (by (with_reducible repeat (first | apply Kd.R_alloc | apply Kd.R_drewN | apply Kd.R_drew)); exact HO465.out) hb); have n1_ := Aside0.mk (Kd.R_below (by (with_reducible repeat (first | apply Kd.R_alloc | apply Kd.R_drewN | apply Kd.R_drew)); exact HO469.out) hb); have n2_ := Aside0.mk (blk_below (g := gb460) (o := .cells #[.slice A0_0 l0_0.length c0_0, .bool false, .int .i64 0] 38 (0, 0)) (by (with_reducible repeat (first | refine blk_drewN ?_ _ | refine blk_drew ?_ | refine blk_alloc ?_ _)); exact BK460.out) hb); have n3_ := Aside0.mk (below_step (by repeat (first | (with_reducible first | exact HB.out | apply below_alloc | apply pw_below_drewN | apply below_drew1 | refine below_set ?_ GE460.out) | exact HB.out)) hb); clear HO465; clear HO469; clear BK460; clear HB; have HO465 := n0_; have HO469 := n1_; have BK460 := n2_; have HB := n3_; clear n0_ n1_ n2_ n3_; (try clear hb); (try clear hb2); (try clear hk); (try clear hi); have hcz64_0 : w63.cell? ⟨gb460, 0, none⟩ = some (.slice A0_0 l0_0.length c0_0) := (blk_cell BK460.out 0).trans rfl; have hcz64_1 : w63.cell? ⟨gb460, 1, none⟩ = some (.bool false) := (blk_cell BK460.out 1).trans rfl; have hcz64_2 : w63.cell? ⟨gb460, 2, none⟩ = some (.int .i64 0) := (blk_cell BK460.out 2).trans rfl; have hfz64_0 := blk_frozen BK460.out 0; have hfz64_1 := blk_frozen BK460.out 1; have hfz64_2 := blk_frozen BK460.out 2) | (go_at_call 24; (with_reducible refine (leap_Total.calls kj4 _ _ l0_0 false 0 a1 t482 _ ?side1 ?side2 A49.out).mono ?_); (case side1 => repeat (first | exact (Kd.C_below HR0_0.out HB.out) | (with_reducible refine Kd.C_alloc ?_ _) | (with_reducible refine Kd.C_drewN ?_ _) | (with_reducible refine Kd.C_drew ?_))); (case side2 => exact HC0_0.out); rintro e w65 ⟨rfl, hb⟩; have n0_ := Aside0.mk (Kd.R_below (by (with_reducible repeat (first | apply Kd.R_alloc | apply Kd.R_drewN | apply Kd.R_drew)); exact HO465.out) hb); have n1_ := Aside0.mk (Kd.R_below (by (with_reducible repeat (first | apply Kd.R_alloc | apply Kd.R_drewN | apply Kd.R_drew)); exact HO469.out) hb); have n2_ := Aside0.mk (blk_below (g := gb460) (o := .cells #[.slice A0_0 l0_0.length c0_0, .bool false, .int .i64 0] 38 (0, 0)) (by (with_reducible repeat (first | refine blk_drewN ?_ _ | refine blk_drew ?_ | refine blk_alloc ?_ _)); exact BK460.out) hb); have n3_ := Aside0.mk (below_step (by repeat (first | (with_reducible first | exact HB.out | apply below_alloc | apply pw_below_drewN | apply below_drew1 | refine below_set ?_ GE460.out) | exact HB.out)) hb); clear HO465; clear HO469; clear BK460; clear HB; have HO465 := n0_; have HO469 := n1_; have BK460 := n2_; have HB := n3_; clear n0_ n1_ n2_ n3_; (try clear hb); (try clear hb2); (try clear hk); (try clear hi)))
                            go_ret
                            exact ⟨by first | rfl | (simp [errW_none, errW_some] <;> rfl) | (simp [*, errW_none, errW_some] <;> rfl), by repeat (first | (with_reducible first | exact HB.out | apply below_alloc | apply pw_below_drewN | apply below_drew1 | refine below_set ?_ GE460.out) | exact HB.out)⟩
                          · rw [if_neg c48] at H
                            exact absurd H (by simp)
                        · rw [if_neg c47] at H
                          exact absurd H (by simp)
                    · rw [if_neg c27] at H
                      have c27b0 : (t474 == 0) = false := beq_eq_false_iff_ne.mpr c27
                      have c27b1 : (t474 != 0) = true := bne_iff_ne.mpr c27
                      by_cases c66 : t474 = 11
                      · rw [if_pos c66] at H
                        have c66b0 : (t474 == 11) = true := beq_iff_eq.mpr c66
                        have c66b1 : (t474 != 11) = false := bne_eq_false_iff_eq.mpr c66
                        clear c66
                        by_cases c67 : t476 = 0
                        · rw [if_pos c67] at H
                          have c67b0 : (t476 == 0) = true := beq_iff_eq.mpr c67
                          have c67b1 : (t476 != 0) = false := bne_eq_false_iff_eq.mpr c67
                          clear c67
                          by_cases c68 : t479 = 0
                          · rw [if_pos c68] at H
                            have c68b0 : (t479 == 0) = true := beq_iff_eq.mpr c68
                            have c68b1 : (t479 != 0) = false := bne_eq_false_iff_eq.mpr c68
                            clear c68
                            replace H := Option.bind_eq_some_iff.mp H
                            obtain ⟨t483, A690, H⟩ := H
                            replace H : (some (t478 == (wrap64 ((wrap64 (86400 * (wrap64 (a1 - 730)))) + t483)))) = some r := H
                            have A69 := Aside0.mk A690
                            clear A690
                            obtain rfl := Option.some.inj H
                            have hcz70_0 : wc.cell? ⟨gb460, 0, none⟩ = some (.slice A0_0 l0_0.length c0_0) := (blk_cell BK460.out 0).trans rfl
                            have hcz70_1 : wc.cell? ⟨gb460, 1, none⟩ = some (.bool a0_1) := (blk_cell BK460.out 1).trans rfl
                            have hcz70_2 : wc.cell? ⟨gb460, 2, none⟩ = some (.int .i64 a0_2) := (blk_cell BK460.out 2).trans rfl
                            have hfz70_0 := blk_frozen BK460.out 0
                            have hfz70_1 := blk_frozen BK460.out 1
                            have hfz70_2 := blk_frozen BK460.out 2
                            go_wp2_with (first | ((with_reducible refine gate_callee (f := 21) rfl ?_); refine goesL_ (some 36) rfl rfl Try.func21 (by kernel_rfl) rfl #[.agg #[.slice A0_0 l0_0.length c0_0, .bool a0_1, .int .i64 a0_2]] rfl (by (try simp only [List.map_toArray, List.map_cons, List.map_nil]); first | done | rfl | (simp only [List.length_drop, List.length_take]; rfl)) ?_; (with_reducible refine (record_Records.calls kj4 _ _ l0_0 a0_1 a0_2 t463 true _ ?side1 ?side2 A13.out).mono ?_); (case side1 => repeat (first | exact (Kd.C_below HR0_0.out HB.out) | (with_reducible refine Kd.C_alloc ?_ _) | (with_reducible refine Kd.C_drewN ?_ _) | (with_reducible refine Kd.C_drew ?_))); (case side2 => exact HC0_0.out); rintro e w71 ⟨v464, rfl, ho0, hb⟩; refine ⟨_, rfl, ?_⟩; have n0_ := Aside0.mk (Kd.R_lower ho0 (below_size (by repeat (first | (with_reducible first | exact HB.out | apply below_alloc | apply pw_below_drewN | apply below_drew1 | refine below_set ?_ GE460.out) | exact HB.out)))); have n1_ := Aside0.mk (blk_below (g := gb460) (o := .cells #[.slice A0_0 l0_0.length c0_0, .bool a0_1, .int .i64 a0_2] 38 (0, 0)) (by (with_reducible repeat (first | refine blk_drewN ?_ _ | refine blk_drew ?_ | refine blk_alloc ?_ _)); exact BK460.out) hb); have n2_ := Aside0.mk (below_step (by repeat (first | (with_reducible first | exact HB.out | apply below_alloc | apply pw_below_drewN | apply below_drew1 | refine below_set ?_ GE460.out) | exact HB.out)) hb); clear BK460; clear HB; have HO465 := n0_; have BK460 := n1_; have HB := n2_; clear n0_ n1_ n2_; (try clear hb); (try clear hb2); (try clear hk); (try clear hi); (try clear ho0); have hcz72_0 : w71.cell? ⟨gb460, 0, none⟩ = some (.slice A0_0 l0_0.length c0_0) := (blk_cell BK460.out 0).trans rfl; have hcz72_1 : w71.cell? ⟨gb460, 1, none⟩ = some (.bool a0_1) := (blk_cell BK460.out 1).trans rfl; have hcz72_2 : w71.cell? ⟨gb460, 2, none⟩ = some (.int .i64 a0_2) := (blk_cell BK460.out 2).trans rfl; have hfz72_0 := blk_frozen BK460.out 0; have hfz72_1 := blk_frozen BK460.out 1; have hfz72_2 := blk_frozen BK460.out 2) | ((with_reducible refine gate_callee (f := 21) rfl ?_); refine goesL_ (some 46) rfl rfl Try.func21 (by kernel_rfl) rfl #[.agg #[.slice A0_0 l0_0.length c0_0, .bool false, .int .i64 0]] rfl (by (try simp only [List.map_toArray, List.map_cons, List.map_nil]); first | done | rfl | (simp only [List.length_drop, List.length_take]; rfl)) ?_; (with_reducible refine (record_Records.calls kj4 _ _ l0_0 false 0 t467 t470 _ ?side1 ?side2 A15.out).mono ?_); (case side1 => exact Kd.C_below HR0_0.out (by repeat (first | (with_reducible first | exact HB.out | apply below_alloc | apply pw_below_drewN | apply below_drew1 | refine below_set ?_ GE460.out) | exact HB.out))); (case side2 => exact HC0_0.out); rintro e w73 ⟨v468, rfl, ho0, hb⟩; refine ⟨_, rfl, ?_⟩; have n0_ := Aside0.mk (Kd.R_elder' (by (with_reducible repeat (first | apply Kd.R_alloc | apply Kd.R_drewN | apply Kd.R_drew)); exact (Kd.R_mono (Kd.R_far (p := ⟨gb460, 2, none⟩) (Kd.R_far (p := ⟨gb460, 1, none⟩) (Kd.R_types HO465.out BK460.out (by decide)) (fun _ hk => hk.2) (.bool false)) (fun _ hk => hk.2) (.int .i64 0)) (fun _ h_ => h_.1))) (Kd.R_base ho0) hb); have n1_ := Aside0.mk (Kd.R_lower (Kd.R_new' ho0 (Kd.R_lt (by (with_reducible repeat (first | apply Kd.R_alloc | apply Kd.R_drewN | apply Kd.R_drew)); exact (Kd.R_mono (Kd.R_far (p := ⟨gb460, 2, none⟩) (Kd.R_far (p := ⟨gb460, 1, none⟩) (Kd.R_types HO465.out BK460.out (by decide)) (fun _ hk => hk.2) (.bool false)) (fun _ hk => hk.2) (.int .i64 0)) (fun _ h_ => h_.1))))) (below_size (by repeat (first | (with_reducible first | exact HB.out | apply below_alloc | apply pw_below_drewN | apply below_drew1 | refine below_set ?_ GE460.out) | exact HB.out)))); have n2_ := Aside0.mk (blk_below (g := gb460) (o := .cells #[.slice A0_0 l0_0.length c0_0, .bool false, .int .i64 0] 38 (0, 0)) (by (with_reducible repeat (first | refine blk_drewN ?_ _ | refine blk_drew ?_ | refine blk_alloc ?_ _)); refine blk_put (cs := #[.slice A0_0 l0_0.length c0_0, .bool false, .int .i64 a0_2]) ?_ 2 _ rfl; (with_reducible repeat (first | refine blk_drewN ?_ _ | refine blk_drew ?_ | refine blk_alloc ?_ _)); refine blk_put (cs := #[.slice A0_0 l0_0.length c0_0, .bool a0_1, .int .i64 a0_2]) ?_ 1 _ rfl; (with_reducible repeat (first | refine blk_drewN ?_ _ | refine blk_drew ?_ | refine blk_alloc ?_ _)); exact BK460.out) hb); have n3_ := Aside0.mk (below_step (by repeat (first | (with_reducible first | exact HB.out | apply below_alloc | apply pw_below_drewN | apply below_drew1 | refine below_set ?_ GE460.out) | exact HB.out)) hb); clear HO465; clear BK460; clear HB; have HO465 := n0_; have HO469 := n1_; have BK460 := n2_; have HB := n3_; clear n0_ n1_ n2_ n3_; (try clear hb); (try clear hb2); (try clear hk); (try clear hi); (try clear ho0); obtain ⟨Ao74, co74, eo74⟩ := Kd.R_slice HO465.out; subst eo74) | ((with_reducible refine gate_callee (f := 14) rfl ?_); refine goesL_ (some 52) rfl rfl Try.func14 (by kernel_rfl) rfl #[.slice Ao74 t463.length co74, .int .i64 a1] rfl (by (try simp only [List.map_toArray, List.map_cons, List.map_nil]); first | done | rfl | (simp only [List.length_drop, List.length_take]; rfl)) ?_; (with_reducible refine (scale_Length.calls kj4 _ _ t463 a1 t471 t472 _ ?side1 ?side2 A16.out).mono ?_); (case side1 => repeat (first | exact (Kd.R_reads' HO465.out).2.2 | (with_reducible refine Kd.C_alloc ?_ _) | (with_reducible refine Kd.C_drewN ?_ _) | (with_reducible refine Kd.C_drew ?_))); (case side2 => exact (Kd.R_reads' HO465.out).2.1); rintro e w75 ⟨rfl, hb⟩; refine ⟨_, rfl, ?_⟩; have n0_ := Aside0.mk (Kd.R_below (by (with_reducible repeat (first | apply Kd.R_alloc | apply Kd.R_drewN | apply Kd.R_drew)); exact HO465.out) hb); have n1_ := Aside0.mk (Kd.R_below (by (with_reducible repeat (first | apply Kd.R_alloc | apply Kd.R_drewN | apply Kd.R_drew)); exact HO469.out) hb); have n2_ := Aside0.mk (blk_below (g := gb460) (o := .cells #[.slice A0_0 l0_0.length c0_0, .bool false, .int .i64 0] 38 (0, 0)) (by (with_reducible repeat (first | refine blk_drewN ?_ _ | refine blk_drew ?_ | refine blk_alloc ?_ _)); exact BK460.out) hb); have n3_ := Aside0.mk (below_step (by repeat (first | (with_reducible first | exact HB.out | apply below_alloc | apply pw_below_drewN | apply below_drew1 | refine below_set ?_ GE460.out) | exact HB.out)) hb); clear HO465; clear HO469; clear BK460; clear HB; have HO465 := n0_; have HO469 := n1_; have BK460 := n2_; have HB := n3_; clear n0_ n1_ n2_ n3_; (try clear hb); (try clear hb2); (try clear hk); (try clear hi); obtain ⟨Ao76, co76, eo76⟩ := Kd.R_slice HO469.out; subst eo76) | ((with_reducible refine gate_callee (f := 12) rfl ?_); refine goesL_ (some 58) rfl rfl Try.func12 (by kernel_rfl) rfl #[.slice Ao76 t467.length co76, .int .i64 a1, .int .i64 86400] rfl (by (try simp only [List.map_toArray, List.map_cons, List.map_nil]); first | done | rfl | (simp only [List.length_drop, List.length_take]; rfl)) ?_; (with_reducible refine (scale_Tai.calls kj4 _ _ t467 a1 86400 t473 t474 _ ?side1 ?side2 A17.out).mono ?_); (case side1 => repeat (first | exact (Kd.R_reads' HO469.out).2.2 | (with_reducible refine Kd.C_alloc ?_ _) | (with_reducible refine Kd.C_drewN ?_ _) | (with_reducible refine Kd.C_drew ?_))); (case side2 => exact (Kd.R_reads' HO469.out).2.1); rintro e w77 ⟨rfl, hb⟩; refine ⟨_, rfl, ?_⟩; have n0_ := Aside0.mk (Kd.R_below (by (with_reducible repeat (first | apply Kd.R_alloc | apply Kd.R_drewN | apply Kd.R_drew)); exact HO465.out) hb); have n1_ := Aside0.mk (Kd.R_below (by (with_reducible repeat (first | apply Kd.R_alloc | apply Kd.R_drewN | apply Kd.R_drew)); exact HO469.out) hb); have n2_ := Aside0.mk (blk_below (g := gb460) (o := .cells #[.slice A0_0 l0_0.length c0_0, .bool false, .int .i64 0] 38 (0, 0)) (by (with_reducible repeat (first | refine blk_drewN ?_ _ | refine blk_drew ?_ | refine blk_alloc ?_ _)); exact BK460.out) hb); have n3_ := Aside0.mk (below_step (by repeat (first | (with_reducible first | exact HB.out | apply below_alloc | apply pw_below_drewN | apply below_drew1 | refine below_set ?_ GE460.out) | exact HB.out)) hb); clear HO465; clear HO469; clear BK460; clear HB; have HO465 := n0_; have HO469 := n1_; have BK460 := n2_; have HB := n3_; clear n0_ n1_ n2_ n3_; (try clear hb); (try clear hb2); (try clear hk); (try clear hi)) | ((with_reducible refine gate_callee (f := 12) rfl ?_); refine goesL_ (some 64) rfl rfl Try.func12 (by kernel_rfl) rfl #[.slice Ao76 t467.length co76, .int .i64 a1, .int .i64 86399] rfl (by (try simp only [List.map_toArray, List.map_cons, List.map_nil]); first | done | rfl | (simp only [List.length_drop, List.length_take]; rfl)) ?_; (with_reducible refine (scale_Tai.calls kj4 _ _ t467 a1 86399 t475 t476 _ ?side1 ?side2 A18.out).mono ?_); (case side1 => repeat (first | exact (Kd.R_reads' HO469.out).2.2 | (with_reducible refine Kd.C_alloc ?_ _) | (with_reducible refine Kd.C_drewN ?_ _) | (with_reducible refine Kd.C_drew ?_))); (case side2 => exact (Kd.R_reads' HO469.out).2.1); rintro e w78 ⟨rfl, hb⟩; refine ⟨_, rfl, ?_⟩; have n0_ := Aside0.mk (Kd.R_below (by (with_reducible repeat (first | apply Kd.R_alloc | apply Kd.R_drewN | apply Kd.R_drew)); exact HO465.out) hb); have n1_ := Aside0.mk (Kd.R_below (by (with_reducible repeat (first | apply Kd.R_alloc | apply Kd.R_drewN | apply Kd.R_drew)); exact HO469.out) hb); have n2_ := Aside0.mk (blk_below (g := gb460) (o := .cells #[.slice A0_0 l0_0.length c0_0, .bool false, .int .i64 0] 38 (0, 0)) (by (with_reducible repeat (first | refine blk_drewN ?_ _ | refine blk_drew ?_ | refine blk_alloc ?_ _)); exact BK460.out) hb); have n3_ := Aside0.mk (below_step (by repeat (first | (with_reducible first | exact HB.out | apply below_alloc | apply pw_below_drewN | apply below_drew1 | refine below_set ?_ GE460.out) | exact HB.out)) hb); clear HO465; clear HO469; clear BK460; clear HB; have HO465 := n0_; have HO469 := n1_; have BK460 := n2_; have HB := n3_; clear n0_ n1_ n2_ n3_; (try clear hb); (try clear hb2); (try clear hk); (try clear hi); have hcz79_0 : w78.cell? ⟨gb460, 0, none⟩ = some (.slice A0_0 l0_0.length c0_0) := (blk_cell BK460.out 0).trans rfl; have hcz79_1 : w78.cell? ⟨gb460, 1, none⟩ = some (.bool false) := (blk_cell BK460.out 1).trans rfl; have hcz79_2 : w78.cell? ⟨gb460, 2, none⟩ = some (.int .i64 0) := (blk_cell BK460.out 2).trans rfl; have hfz79_0 := blk_frozen BK460.out 0; have hfz79_1 := blk_frozen BK460.out 1; have hfz79_2 := blk_frozen BK460.out 2) | ((with_reducible refine gate_callee (f := 22) rfl ?_); refine goesL_ (some 69) rfl rfl Try.func22 (by kernel_rfl) rfl #[.agg #[.slice A0_0 l0_0.length c0_0, .bool false, .int .i64 0], .int .i64 a1] rfl (by (try simp only [List.map_toArray, List.map_cons, List.map_nil]); first | done | rfl | (simp only [List.length_drop, List.length_take]; rfl)) ?_; (with_reducible refine (leap_Step.calls _ _ l0_0 false 0 a1 t477 _ ?side1 ?side2 A19.out).mono ?_); (case side1 => repeat (first | exact (Kd.C_below HR0_0.out HB.out) | (with_reducible refine Kd.C_alloc ?_ _) | (with_reducible refine Kd.C_drewN ?_ _) | (with_reducible refine Kd.C_drew ?_))); (case side2 => exact HC0_0.out); rintro e w80 ⟨rfl, hb⟩; refine ⟨_, rfl, ?_⟩; have n0_ := Aside0.mk (Kd.R_below (by (with_reducible repeat (first | apply Kd.R_alloc | apply Kd.R_drewN | apply Kd.R_drew)); exact HO465.out) hb); have n1_ := Aside0.mk (Kd.R_below (by (with_reducible repeat (first | apply Kd.R_alloc | apply Kd.R_drewN | apply Kd.R_drew)); exact HO469.out) hb); have n2_ := Aside0.mk (blk_below (g := gb460) (o := .cells #[.slice A0_0 l0_0.length c0_0, .bool false, .int .i64 0] 38 (0, 0)) (by (with_reducible repeat (first | refine blk_drewN ?_ _ | refine blk_drew ?_ | refine blk_alloc ?_ _)); exact BK460.out) hb); have n3_ := Aside0.mk (below_step (by repeat (first | (with_reducible first | exact HB.out | apply below_alloc | apply pw_below_drewN | apply below_drew1 | refine below_set ?_ GE460.out) | exact HB.out)) hb); clear HO465; clear HO469; clear BK460; clear HB; have HO465 := n0_; have HO469 := n1_; have BK460 := n2_; have HB := n3_; clear n0_ n1_ n2_ n3_; (try clear hb); (try clear hb2); (try clear hk); (try clear hi)) | ((with_reducible refine gate_callee (f := 12) rfl ?_); refine goesL_ (some 73) rfl rfl Try.func12 (by kernel_rfl) rfl #[.slice Ao76 t467.length co76, .int .i64 a1, .int .i64 0] rfl (by (try simp only [List.map_toArray, List.map_cons, List.map_nil]); first | done | rfl | (simp only [List.length_drop, List.length_take]; rfl)) ?_; (with_reducible refine (scale_Tai.calls kj4 _ _ t467 a1 0 t478 t479 _ ?side1 ?side2 A20.out).mono ?_); (case side1 => repeat (first | exact (Kd.R_reads' HO469.out).2.2 | (with_reducible refine Kd.C_alloc ?_ _) | (with_reducible refine Kd.C_drewN ?_ _) | (with_reducible refine Kd.C_drew ?_))); (case side2 => exact (Kd.R_reads' HO469.out).2.1); rintro e w81 ⟨rfl, hb⟩; refine ⟨_, rfl, ?_⟩; have n0_ := Aside0.mk (Kd.R_below (by (with_reducible repeat (first | apply Kd.R_alloc | apply Kd.R_drewN | apply Kd.R_drew)); exact HO465.out) hb); have n1_ := Aside0.mk (Kd.R_below (by (with_reducible repeat (first | apply Kd.R_alloc | apply Kd.R_drewN | apply Kd.R_drew)); exact HO469.out) hb); have n2_ := Aside0.mk (blk_below (g := gb460) (o := .cells #[.slice A0_0 l0_0.length c0_0, .bool false, .int .i64 0] 38 (0, 0)) (by (with_reducible repeat (first | refine blk_drewN ?_ _ | refine blk_drew ?_ | refine blk_alloc ?_ _)); exact BK460.out) hb); have n3_ := Aside0.mk (below_step (by repeat (first | (with_reducible first | exact HB.out | apply below_alloc | apply pw_below_drewN | apply below_drew1 | refine below_set ?_ GE460.out) | exact HB.out)) hb); clear HO465; clear HO469; clear BK460; clear HB; have HO465 := n0_; have HO469 := n1_; have BK460 := n2_; have HB := n3_; clear n0_ n1_ n2_ n3_; (try clear hb); (try clear hb2); (try clear hk); (try clear hi); have hcz82_0 : w81.cell? ⟨gb460, 0, none⟩ = some (.slice A0_0 l0_0.length c0_0) := (blk_cell BK460.out 0).trans rfl; have hcz82_1 : w81.cell? ⟨gb460, 1, none⟩ = some (.bool false) := (blk_cell BK460.out 1).trans rfl; have hcz82_2 : w81.cell? ⟨gb460, 2, none⟩ = some (.int .i64 0) := (blk_cell BK460.out 2).trans rfl; have hfz82_0 := blk_frozen BK460.out 0; have hfz82_1 := blk_frozen BK460.out 1; have hfz82_2 := blk_frozen BK460.out 2) | (go_at_call 23; (with_reducible refine (leap_Length.calls _ _ l0_0 false 0 a1 t480 _ ?side1 ?side2 A23.out).mono ?_); (case side1 => repeat (first | exact (Kd.C_below HR0_0.out HB.out) | (with_reducible refine Kd.C_alloc ?_ _) | (with_reducible refine Kd.C_drewN ?_ _) | (with_reducible refine Kd.C_drew ?_))); (case side2 => exact HC0_0.out); rintro e w83 ⟨rfl, hb⟩; have n0_ := Aside0.mk (Kd.R_below (by (with_reducible repeat (first | apply Kd.R_alloc | apply Kd.R_drewN | apply Kd.R_drew)); exact HO465.out) hb); have n1_ := Aside0.mk (Kd.R_below (by (with_reducible repeat (first | apply Kd.R_alloc | apply Kd.R_drewN | apply Kd.R_drew)); exact HO469.out) hb); have n2_ := Aside0.mk (blk_below (g := gb460) (o := .cells #[.slice A0_0 l0_0.length c0_0, .bool false, .int .i64 0] 38 (0, 0)) (by (with_reducible repeat (first | refine blk_drewN ?_ _ | refine blk_drew ?_ | refine blk_alloc ?_ _)); exact BK460.out) hb); have n3_ := Aside0.mk (below_step (by repeat (first | (with_reducible first | exact HB.out | apply below_alloc | apply pw_below_drewN | apply below_drew1 | refine below_set ?_ GE460.out) | exact HB.out)) hb); clear HO465; clear HO469; clear BK460; clear HB; have HO465 := n0_; have HO469 := n1_; have BK460 := n2_; have HB := n3_; clear n0_ n1_ n2_ n3_; (try clear hb); (try clear hb2); (try clear hk); (try clear hi); have hcz84_0 : w83.cell? ⟨gb460, 0, none⟩ = some (.slice A0_0 l0_0.length c0_0) := (blk_cell BK460.out 0).trans rfl; have hcz84_1 : w83.cell? ⟨gb460, 1, none⟩ = some (.bool false) := (blk_cell BK460.out 1).trans rfl; have hcz84_2 : w83.cell? ⟨gb460, 2, none⟩ = some (.int .i64 0) := (blk_cell BK460.out 2).trans rfl; have hfz84_0 := blk_frozen BK460.out 0; have hfz84_1 := blk_frozen BK460.out 1; have hfz84_2 := blk_frozen BK460.out 2) | (go_at_call 24; (with_reducible refine (leap_Total.calls kj4 _ _ l0_0 false 0 a1 t483 _ ?side1 ?side2 A69.out).mono ?_); (case side1 => repeat (first | exact (Kd.C_below HR0_0.out HB.out) | (with_reducible refine Kd.C_alloc ?_ _) | (with_reducible refine Kd.C_drewN ?_ _) | (with_reducible refine Kd.C_drew ?_))); (case side2 => exact HC0_0.out); rintro e w85 ⟨rfl, hb⟩; have n0_ := Aside0.mk (Kd.R_below (by (with_reducible repeat (first | apply Kd.R_alloc | apply Kd.R_drewN | apply Kd.R_drew)); exact HO465.out) hb); have n1_ := Aside0.mk (Kd.R_below (by (with_reducible repeat (first | apply Kd.R_alloc | apply Kd.R_drewN | apply Kd.R_drew)); exact HO469.out) hb); have n2_ := Aside0.mk (blk_below (g := gb460) (o := .cells #[.slice A0_0 l0_0.length c0_0, .bool false, .int .i64 0] 38 (0, 0)) (by (with_reducible repeat (first | refine blk_drewN ?_ _ | refine blk_drew ?_ | refine blk_alloc ?_ _)); exact BK460.out) hb); have n3_ := Aside0.mk (below_step (by repeat (first | (with_reducible first | exact HB.out | apply below_alloc | apply pw_below_drewN | apply below_drew1 | refine below_set ?_ GE460.out) | exact HB.out)) hb); clear HO465; clear HO469; clear BK460; clear HB; have HO465 := n0_; have HO469 := n1_; have BK460 := n2_; have HB := n3_; clear n0_ n1_ n2_ n3_; (try clear hb); (try clear hb2); (try clear hk); (try clear hi)))
                            go_ret
                            exact ⟨by first | rfl | (simp [errW_none, errW_some] <;> rfl) | (simp [*, errW_none, errW_some] <;> rfl), by repeat (first | (with_reducible first | exact HB.out | apply below_alloc | apply pw_below_drewN | apply below_drew1 | refine below_set ?_ GE460.out) | exact HB.out)⟩
                          · rw [if_neg c68] at H
                            exact absurd H (by simp)
                        · rw [if_neg c67] at H
                          have c67b0 : (t476 == 0) = false := beq_eq_false_iff_ne.mpr c67
                          have c67b1 : (t476 != 0) = true := bne_iff_ne.mpr c67
                          by_cases c86 : t476 = 11
                          · rw [if_pos c86] at H
                            have c86b0 : (t476 == 11) = true := beq_iff_eq.mpr c86
                            have c86b1 : (t476 != 11) = false := bne_eq_false_iff_eq.mpr c86
                            clear c86
                            by_cases c87 : t479 = 0
                            · rw [if_pos c87] at H
                              have c87b0 : (t479 == 0) = true := beq_iff_eq.mpr c87
                              have c87b1 : (t479 != 0) = false := bne_eq_false_iff_eq.mpr c87
                              clear c87
                              replace H := Option.bind_eq_some_iff.mp H
                              obtain ⟨t484, A880, H⟩ := H
                              replace H : (some (t478 == (wrap64 ((wrap64 (86400 * (wrap64 (a1 - 730)))) + t484)))) = some r := H
                              have A88 := Aside0.mk A880
                              clear A880
                              obtain rfl := Option.some.inj H
                              have hcz89_0 : wc.cell? ⟨gb460, 0, none⟩ = some (.slice A0_0 l0_0.length c0_0) := (blk_cell BK460.out 0).trans rfl
                              have hcz89_1 : wc.cell? ⟨gb460, 1, none⟩ = some (.bool a0_1) := (blk_cell BK460.out 1).trans rfl
                              have hcz89_2 : wc.cell? ⟨gb460, 2, none⟩ = some (.int .i64 a0_2) := (blk_cell BK460.out 2).trans rfl
                              have hfz89_0 := blk_frozen BK460.out 0
                              have hfz89_1 := blk_frozen BK460.out 1
                              have hfz89_2 := blk_frozen BK460.out 2
                              go_wp2_with (first | ((with_reducible refine gate_callee (f := 21) rfl ?_); refine goesL_ (some 36) rfl rfl Try.func21 (by kernel_rfl) rfl #[.agg #[.slice A0_0 l0_0.length c0_0, .bool a0_1, .int .i64 a0_2]] rfl (by (try simp only [List.map_toArray, List.map_cons, List.map_nil]); first | done | rfl | (simp only [List.length_drop, List.length_take]; rfl)) ?_; (with_reducible refine (record_Records.calls kj4 _ _ l0_0 a0_1 a0_2 t463 true _ ?side1 ?side2 A13.out).mono ?_); (case side1 => repeat (first | exact (Kd.C_below HR0_0.out HB.out) | (with_reducible refine Kd.C_alloc ?_ _) | (with_reducible refine Kd.C_drewN ?_ _) | (with_reducible refine Kd.C_drew ?_))); (case side2 => exact HC0_0.out); rintro e w90 ⟨v464, rfl, ho0, hb⟩; refine ⟨_, rfl, ?_⟩; have n0_ := Aside0.mk (Kd.R_lower ho0 (below_size (by repeat (first | (with_reducible first | exact HB.out | apply below_alloc | apply pw_below_drewN | apply below_drew1 | refine below_set ?_ GE460.out) | exact HB.out)))); have n1_ := Aside0.mk (blk_below (g := gb460) (o := .cells #[.slice A0_0 l0_0.length c0_0, .bool a0_1, .int .i64 a0_2] 38 (0, 0)) (by (with_reducible repeat (first | refine blk_drewN ?_ _ | refine blk_drew ?_ | refine blk_alloc ?_ _)); exact BK460.out) hb); have n2_ := Aside0.mk (below_step (by repeat (first | (with_reducible first | exact HB.out | apply below_alloc | apply pw_below_drewN | apply below_drew1 | refine below_set ?_ GE460.out) | exact HB.out)) hb); clear BK460; clear HB; have HO465 := n0_; have BK460 := n1_; have HB := n2_; clear n0_ n1_ n2_; (try clear hb); (try clear hb2); (try clear hk); (try clear hi); (try clear ho0); have hcz91_0 : w90.cell? ⟨gb460, 0, none⟩ = some (.slice A0_0 l0_0.length c0_0) := (blk_cell BK460.out 0).trans rfl; have hcz91_1 : w90.cell? ⟨gb460, 1, none⟩ = some (.bool a0_1) := (blk_cell BK460.out 1).trans rfl; have hcz91_2 : w90.cell? ⟨gb460, 2, none⟩ = some (.int .i64 a0_2) := (blk_cell BK460.out 2).trans rfl; have hfz91_0 := blk_frozen BK460.out 0; have hfz91_1 := blk_frozen BK460.out 1; have hfz91_2 := blk_frozen BK460.out 2) | ((with_reducible refine gate_callee (f := 21) rfl ?_); refine goesL_ (some 46) rfl rfl Try.func21 (by kernel_rfl) rfl #[.agg #[.slice A0_0 l0_0.length c0_0, .bool false, .int .i64 0]] rfl (by (try simp only [List.map_toArray, List.map_cons, List.map_nil]); first | done | rfl | (simp only [List.length_drop, List.length_take]; rfl)) ?_; (with_reducible refine (record_Records.calls kj4 _ _ l0_0 false 0 t467 t470 _ ?side1 ?side2 A15.out).mono ?_); (case side1 => exact Kd.C_below HR0_0.out (by repeat (first | (with_reducible first | exact HB.out | apply below_alloc | apply pw_below_drewN | apply below_drew1 | refine below_set ?_ GE460.out) | exact HB.out))); (case side2 => exact HC0_0.out); rintro e w92 ⟨v468, rfl, ho0, hb⟩; refine ⟨_, rfl, ?_⟩; have n0_ := Aside0.mk (Kd.R_elder' (by (with_reducible repeat (first | apply Kd.R_alloc | apply Kd.R_drewN | apply Kd.R_drew)); exact (Kd.R_mono (Kd.R_far (p := ⟨gb460, 2, none⟩) (Kd.R_far (p := ⟨gb460, 1, none⟩) (Kd.R_types HO465.out BK460.out (by decide)) (fun _ hk => hk.2) (.bool false)) (fun _ hk => hk.2) (.int .i64 0)) (fun _ h_ => h_.1))) (Kd.R_base ho0) hb); have n1_ := Aside0.mk (Kd.R_lower (Kd.R_new' ho0 (Kd.R_lt (by (with_reducible repeat (first | apply Kd.R_alloc | apply Kd.R_drewN | apply Kd.R_drew)); exact (Kd.R_mono (Kd.R_far (p := ⟨gb460, 2, none⟩) (Kd.R_far (p := ⟨gb460, 1, none⟩) (Kd.R_types HO465.out BK460.out (by decide)) (fun _ hk => hk.2) (.bool false)) (fun _ hk => hk.2) (.int .i64 0)) (fun _ h_ => h_.1))))) (below_size (by repeat (first | (with_reducible first | exact HB.out | apply below_alloc | apply pw_below_drewN | apply below_drew1 | refine below_set ?_ GE460.out) | exact HB.out)))); have n2_ := Aside0.mk (blk_below (g := gb460) (o := .cells #[.slice A0_0 l0_0.length c0_0, .bool false, .int .i64 0] 38 (0, 0)) (by (with_reducible repeat (first | refine blk_drewN ?_ _ | refine blk_drew ?_ | refine blk_alloc ?_ _)); refine blk_put (cs := #[.slice A0_0 l0_0.length c0_0, .bool false, .int .i64 a0_2]) ?_ 2 _ rfl; (with_reducible repeat (first | refine blk_drewN ?_ _ | refine blk_drew ?_ | refine blk_alloc ?_ _)); refine blk_put (cs := #[.slice A0_0 l0_0.length c0_0, .bool a0_1, .int .i64 a0_2]) ?_ 1 _ rfl; (with_reducible repeat (first | refine blk_drewN ?_ _ | refine blk_drew ?_ | refine blk_alloc ?_ _)); exact BK460.out) hb); have n3_ := Aside0.mk (below_step (by repeat (first | (with_reducible first | exact HB.out | apply below_alloc | apply pw_below_drewN | apply below_drew1 | refine below_set ?_ GE460.out) | exact HB.out)) hb); clear HO465; clear BK460; clear HB; have HO465 := n0_; have HO469 := n1_; have BK460 := n2_; have HB := n3_; clear n0_ n1_ n2_ n3_; (try clear hb); (try clear hb2); (try clear hk); (try clear hi); (try clear ho0); obtain ⟨Ao93, co93, eo93⟩ := Kd.R_slice HO465.out; subst eo93) | ((with_reducible refine gate_callee (f := 14) rfl ?_); refine goesL_ (some 52) rfl rfl Try.func14 (by kernel_rfl) rfl #[.slice Ao93 t463.length co93, .int .i64 a1] rfl (by (try simp only [List.map_toArray, List.map_cons, List.map_nil]); first | done | rfl | (simp only [List.length_drop, List.length_take]; rfl)) ?_; (with_reducible refine (scale_Length.calls kj4 _ _ t463 a1 t471 t472 _ ?side1 ?side2 A16.out).mono ?_); (case side1 => repeat (first | exact (Kd.R_reads' HO465.out).2.2 | (with_reducible refine Kd.C_alloc ?_ _) | (with_reducible refine Kd.C_drewN ?_ _) | (with_reducible refine Kd.C_drew ?_))); (case side2 => exact (Kd.R_reads' HO465.out).2.1); rintro e w94 ⟨rfl, hb⟩; refine ⟨_, rfl, ?_⟩; have n0_ := Aside0.mk (Kd.R_below (by (with_reducible repeat (first | apply Kd.R_alloc | apply Kd.R_drewN | apply Kd.R_drew)); exact HO465.out) hb); have n1_ := Aside0.mk (Kd.R_below (by (with_reducible repeat (first | apply Kd.R_alloc | apply Kd.R_drewN | apply Kd.R_drew)); exact HO469.out) hb); have n2_ := Aside0.mk (blk_below (g := gb460) (o := .cells #[.slice A0_0 l0_0.length c0_0, .bool false, .int .i64 0] 38 (0, 0)) (by (with_reducible repeat (first | refine blk_drewN ?_ _ | refine blk_drew ?_ | refine blk_alloc ?_ _)); exact BK460.out) hb); have n3_ := Aside0.mk (below_step (by repeat (first | (with_reducible first | exact HB.out | apply below_alloc | apply pw_below_drewN | apply below_drew1 | refine below_set ?_ GE460.out) | exact HB.out)) hb); clear HO465; clear HO469; clear BK460; clear HB; have HO465 := n0_; have HO469 := n1_; have BK460 := n2_; have HB := n3_; clear n0_ n1_ n2_ n3_; (try clear hb); (try clear hb2); (try clear hk); (try clear hi); obtain ⟨Ao95, co95, eo95⟩ := Kd.R_slice HO469.out; subst eo95) | ((with_reducible refine gate_callee (f := 12) rfl ?_); refine goesL_ (some 58) rfl rfl Try.func12 (by kernel_rfl) rfl #[.slice Ao95 t467.length co95, .int .i64 a1, .int .i64 86400] rfl (by (try simp only [List.map_toArray, List.map_cons, List.map_nil]); first | done | rfl | (simp only [List.length_drop, List.length_take]; rfl)) ?_; (with_reducible refine (scale_Tai.calls kj4 _ _ t467 a1 86400 t473 t474 _ ?side1 ?side2 A17.out).mono ?_); (case side1 => repeat (first | exact (Kd.R_reads' HO469.out).2.2 | (with_reducible refine Kd.C_alloc ?_ _) | (with_reducible refine Kd.C_drewN ?_ _) | (with_reducible refine Kd.C_drew ?_))); (case side2 => exact (Kd.R_reads' HO469.out).2.1); rintro e w96 ⟨rfl, hb⟩; refine ⟨_, rfl, ?_⟩; have n0_ := Aside0.mk (Kd.R_below (by (with_reducible repeat (first | apply Kd.R_alloc | apply Kd.R_drewN | apply Kd.R_drew)); exact HO465.out) hb); have n1_ := Aside0.mk (Kd.R_below (by (with_reducible repeat (first | apply Kd.R_alloc | apply Kd.R_drewN | apply Kd.R_drew)); exact HO469.out) hb); have n2_ := Aside0.mk (blk_below (g := gb460) (o := .cells #[.slice A0_0 l0_0.length c0_0, .bool false, .int .i64 0] 38 (0, 0)) (by (with_reducible repeat (first | refine blk_drewN ?_ _ | refine blk_drew ?_ | refine blk_alloc ?_ _)); exact BK460.out) hb); have n3_ := Aside0.mk (below_step (by repeat (first | (with_reducible first | exact HB.out | apply below_alloc | apply pw_below_drewN | apply below_drew1 | refine below_set ?_ GE460.out) | exact HB.out)) hb); clear HO465; clear HO469; clear BK460; clear HB; have HO465 := n0_; have HO469 := n1_; have BK460 := n2_; have HB := n3_; clear n0_ n1_ n2_ n3_; (try clear hb); (try clear hb2); (try clear hk); (try clear hi)) | ((with_reducible refine gate_callee (f := 12) rfl ?_); refine goesL_ (some 64) rfl rfl Try.func12 (by kernel_rfl) rfl #[.slice Ao95 t467.length co95, .int .i64 a1, .int .i64 86399] rfl (by (try simp only [List.map_toArray, List.map_cons, List.map_nil]); first | done | rfl | (simp only [List.length_drop, List.length_take]; rfl)) ?_; (with_reducible refine (scale_Tai.calls kj4 _ _ t467 a1 86399 t475 t476 _ ?side1 ?side2 A18.out).mono ?_); (case side1 => repeat (first | exact (Kd.R_reads' HO469.out).2.2 | (with_reducible refine Kd.C_alloc ?_ _) | (with_reducible refine Kd.C_drewN ?_ _) | (with_reducible refine Kd.C_drew ?_))); (case side2 => exact (Kd.R_reads' HO469.out).2.1); rintro e w97 ⟨rfl, hb⟩; refine ⟨_, rfl, ?_⟩; have n0_ := Aside0.mk (Kd.R_below (by (with_reducible repeat (first | apply Kd.R_alloc | apply Kd.R_drewN | apply Kd.R_drew)); exact HO465.out) hb); have n1_ := Aside0.mk (Kd.R_below (by (with_reducible repeat (first | apply Kd.R_alloc | apply Kd.R_drewN | apply Kd.R_drew)); exact HO469.out) hb); have n2_ := Aside0.mk (blk_below (g := gb460) (o := .cells #[.slice A0_0 l0_0.length c0_0, .bool false, .int .i64 0] 38 (0, 0)) (by (with_reducible repeat (first | refine blk_drewN ?_ _ | refine blk_drew ?_ | refine blk_alloc ?_ _)); exact BK460.out) hb); have n3_ := Aside0.mk (below_step (by repeat (first | (with_reducible first | exact HB.out | apply below_alloc | apply pw_below_drewN | apply below_drew1 | refine below_set ?_ GE460.out) | exact HB.out)) hb); clear HO465; clear HO469; clear BK460; clear HB; have HO465 := n0_; have HO469 := n1_; have BK460 := n2_; have HB := n3_; clear n0_ n1_ n2_ n3_; (try clear hb); (try clear hb2); (try clear hk); (try clear hi); have hcz98_0 : w97.cell? ⟨gb460, 0, none⟩ = some (.slice A0_0 l0_0.length c0_0) := (blk_cell BK460.out 0).trans rfl; have hcz98_1 : w97.cell? ⟨gb460, 1, none⟩ = some (.bool false) := (blk_cell BK460.out 1).trans rfl; have hcz98_2 : w97.cell? ⟨gb460, 2, none⟩ = some (.int .i64 0) := (blk_cell BK460.out 2).trans rfl; have hfz98_0 := blk_frozen BK460.out 0; have hfz98_1 := blk_frozen BK460.out 1; have hfz98_2 := blk_frozen BK460.out 2) | ((with_reducible refine gate_callee (f := 22) rfl ?_); refine goesL_ (some 69) rfl rfl Try.func22 (by kernel_rfl) rfl #[.agg #[.slice A0_0 l0_0.length c0_0, .bool false, .int .i64 0], .int .i64 a1] rfl (by (try simp only [List.map_toArray, List.map_cons, List.map_nil]); first | done | rfl | (simp only [List.length_drop, List.length_take]; rfl)) ?_; (with_reducible refine (leap_Step.calls _ _ l0_0 false 0 a1 t477 _ ?side1 ?side2 A19.out).mono ?_); (case side1 => repeat (first | exact (Kd.C_below HR0_0.out HB.out) | (with_reducible refine Kd.C_alloc ?_ _) | (with_reducible refine Kd.C_drewN ?_ _) | (with_reducible refine Kd.C_drew ?_))); (case side2 => exact HC0_0.out); rintro e w99 ⟨rfl, hb⟩; refine ⟨_, rfl, ?_⟩; have n0_ := Aside0.mk (Kd.R_below (by (with_reducible repeat (first | apply Kd.R_alloc | apply Kd.R_drewN | apply Kd.R_drew)); exact HO465.out) hb); have n1_ := Aside0.mk (Kd.R_below (by (with_reducible repeat (first | apply Kd.R_alloc | apply Kd.R_drewN | apply Kd.R_drew)); exact HO469.out) hb); have n2_ := Aside0.mk (blk_below (g := gb460) (o := .cells #[.slice A0_0 l0_0.length c0_0, .bool false, .int .i64 0] 38 (0, 0)) (by (with_reducible repeat (first | refine blk_drewN ?_ _ | refine blk_drew ?_ | refine blk_alloc ?_ _)); exact BK460.out) hb); have n3_ := Aside0.mk (below_step (by repeat (first | (with_reducible first | exact HB.out | apply below_alloc | apply pw_below_drewN | apply below_drew1 | refine below_set ?_ GE460.out) | exact HB.out)) hb); clear HO465; clear HO469; clear BK460; clear HB; have HO465 := n0_; have HO469 := n1_; have BK460 := n2_; have HB := n3_; clear n0_ n1_ n2_ n3_; (try clear hb); (try clear hb2); (try clear hk); (try clear hi)) | ((with_reducible refine gate_callee (f := 12) rfl ?_); refine goesL_ (some 73) rfl rfl Try.func12 (by kernel_rfl) rfl #[.slice Ao95 t467.length co95, .int .i64 a1, .int .i64 0] rfl (by (try simp only [List.map_toArray, List.map_cons, List.map_nil]); first | done | rfl | (simp only [List.length_drop, List.length_take]; rfl)) ?_; (with_reducible refine (scale_Tai.calls kj4 _ _ t467 a1 0 t478 t479 _ ?side1 ?side2 A20.out).mono ?_); (case side1 => repeat (first | exact (Kd.R_reads' HO469.out).2.2 | (with_reducible refine Kd.C_alloc ?_ _) | (with_reducible refine Kd.C_drewN ?_ _) | (with_reducible refine Kd.C_drew ?_))); (case side2 => exact (Kd.R_reads' HO469.out).2.1); rintro e w100 ⟨rfl, hb⟩; refine ⟨_, rfl, ?_⟩; have n0_ := Aside0.mk (Kd.R_below (by (with_reducible repeat (first | apply Kd.R_alloc | apply Kd.R_drewN | apply Kd.R_drew)); exact HO465.out) hb); have n1_ := Aside0.mk (Kd.R_below (by (with_reducible repeat (first | apply Kd.R_alloc | apply Kd.R_drewN | apply Kd.R_drew)); exact HO469.out) hb); have n2_ := Aside0.mk (blk_below (g := gb460) (o := .cells #[.slice A0_0 l0_0.length c0_0, .bool false, .int .i64 0] 38 (0, 0)) (by (with_reducible repeat (first | refine blk_drewN ?_ _ | refine blk_drew ?_ | refine blk_alloc ?_ _)); exact BK460.out) hb); have n3_ := Aside0.mk (below_step (by repeat (first | (with_reducible first | exact HB.out | apply below_alloc | apply pw_below_drewN | apply below_drew1 | refine below_set ?_ GE460.out) | exact HB.out)) hb); clear HO465; clear HO469; clear BK460; clear HB; have HO465 := n0_; have HO469 := n1_; have BK460 := n2_; have HB := n3_; clear n0_ n1_ n2_ n3_; (try clear hb); (try clear hb2); (try clear hk); (try clear hi); have hcz101_0 : w100.cell? ⟨gb460, 0, none⟩ = some (.slice A0_0 l0_0.length c0_0) := (blk_cell BK460.out 0).trans rfl; have hcz101_1 : w100.cell? ⟨gb460, 1, none⟩ = some (.bool false) := (blk_cell BK460.out 1).trans rfl; have hcz101_2 : w100.cell? ⟨gb460, 2, none⟩ = some (.int .i64 0) := (blk_cell BK460.out 2).trans rfl; have hfz101_0 := blk_frozen BK460.out 0; have hfz101_1 := blk_frozen BK460.out 1; have hfz101_2 := blk_frozen BK460.out 2) | (go_at_call 23; (with_reducible refine (leap_Length.calls _ _ l0_0 false 0 a1 t480 _ ?side1 ?side2 A23.out).mono ?_); (case side1 => repeat (first | exact (Kd.C_below HR0_0.out HB.out) | (with_reducible refine Kd.C_alloc ?_ _) | (with_reducible refine Kd.C_drewN ?_ _) | (with_reducible refine Kd.C_drew ?_))); (case side2 => exact HC0_0.out); rintro e w102 ⟨rfl, hb⟩; have n0_ := Aside0.mk (Kd.R_below (by (with_reducible repeat (first | apply Kd.R_alloc | apply Kd.R_drewN | apply Kd.R_drew)); exact HO465.out) hb); have n1_ := Aside0.mk (Kd.R_below (by (with_reducible repeat (first | apply Kd.R_alloc | apply Kd.R_drewN | apply Kd.R_drew)); exact HO469.out) hb); have n2_ := Aside0.mk (blk_below (g := gb460) (o := .cells #[.slice A0_0 l0_0.length c0_0, .bool false, .int .i64 0] 38 (0, 0)) (by (with_reducible repeat (first | refine blk_drewN ?_ _ | refine blk_drew ?_ | refine blk_alloc ?_ _)); exact BK460.out) hb); have n3_ := Aside0.mk (below_step (by repeat (first | (with_reducible first | exact HB.out | apply below_alloc | apply pw_below_drewN | apply below_drew1 | refine below_set ?_ GE460.out) | exact HB.out)) hb); clear HO465; clear HO469; clear BK460; clear HB; have HO465 := n0_; have HO469 := n1_; have BK460 := n2_; have HB := n3_; clear n0_ n1_ n2_ n3_; (try clear hb); (try clear hb2); (try clear hk); (try clear hi); have hcz103_0 : w102.cell? ⟨gb460, 0, none⟩ = some (.slice A0_0 l0_0.length c0_0) := (blk_cell BK460.out 0).trans rfl; have hcz103_1 : w102.cell? ⟨gb460, 1, none⟩ = some (.bool false) := (blk_cell BK460.out 1).trans rfl; have hcz103_2 : w102.cell? ⟨gb460, 2, none⟩ = some (.int .i64 0) := (blk_cell BK460.out 2).trans rfl; have hfz103_0 := blk_frozen BK460.out 0; have hfz103_1 := blk_frozen BK460.out 1; have hfz103_2 := blk_frozen BK460.out 2) | (go_at_call 24; (with_reducible refine (leap_Total.calls kj4 _ _ l0_0 false 0 a1 t484 _ ?side1 ?side2 A88.out).mono ?_); (case side1 => repeat (first | exact (Kd.C_below HR0_0.out HB.out) | (with_reducible refine Kd.C_alloc ?_ _) | (with_reducible refine Kd.C_drewN ?_ _) | (with_reducible refine Kd.C_drew ?_))); (case side2 => exact HC0_0.out); rintro e w104 ⟨rfl, hb⟩; have n0_ := Aside0.mk (Kd.R_below (by (with_reducible repeat (first | apply Kd.R_alloc | apply Kd.R_drewN | apply Kd.R_drew)); exact HO465.out) hb); have n1_ := Aside0.mk (Kd.R_below (by (with_reducible repeat (first | apply Kd.R_alloc | apply Kd.R_drewN | apply Kd.R_drew)); exact HO469.out) hb); have n2_ := Aside0.mk (blk_below (g := gb460) (o := .cells #[.slice A0_0 l0_0.length c0_0, .bool false, .int .i64 0] 38 (0, 0)) (by (with_reducible repeat (first | refine blk_drewN ?_ _ | refine blk_drew ?_ | refine blk_alloc ?_ _)); exact BK460.out) hb); have n3_ := Aside0.mk (below_step (by repeat (first | (with_reducible first | exact HB.out | apply below_alloc | apply pw_below_drewN | apply below_drew1 | refine below_set ?_ GE460.out) | exact HB.out)) hb); clear HO465; clear HO469; clear BK460; clear HB; have HO465 := n0_; have HO469 := n1_; have BK460 := n2_; have HB := n3_; clear n0_ n1_ n2_ n3_; (try clear hb); (try clear hb2); (try clear hk); (try clear hi)))
                              go_ret
                              exact ⟨by first | rfl | (simp [errW_none, errW_some] <;> rfl) | (simp [*, errW_none, errW_some] <;> rfl), by repeat (first | (with_reducible first | exact HB.out | apply below_alloc | apply pw_below_drewN | apply below_drew1 | refine below_set ?_ GE460.out) | exact HB.out)⟩
                            · rw [if_neg c87] at H
                              exact absurd H (by simp)
                          · rw [if_neg c86] at H
                            exact absurd H (by simp)
                      · rw [if_neg c66] at H
                        exact absurd H (by simp)
                  · rw [if_neg c26] at H
                    exact absurd H (by simp)
                · rw [if_neg c25] at H
                  exact absurd H (by simp)
              · rw [if_neg c24] at H
                exact absurd H (by simp)
            · rw [if_neg c22] at H
              exact absurd H (by simp)
          · replace c21 := Bool.eq_false_iff.mpr c21
            subst c21
            have H1 : (none) = some r := by rw [if_neg (show ¬ (false = true) by decide)] at H; exact H
            clear H
            have H := H1
            clear H1
            exact absurd H (by simp)
        · replace c14 := Bool.eq_false_iff.mpr c14
          subst c14
          have H1 : (some t461) = some r := by rw [if_neg (show ¬ (false = true) by decide)] at H; exact H
          clear H
          have H := H1
          clear H1
          obtain rfl := Option.some.inj H
          have hcz105_0 : wc.cell? ⟨gb460, 0, none⟩ = some (.slice A0_0 l0_0.length c0_0) := (blk_cell BK460.out 0).trans rfl
          have hcz105_1 : wc.cell? ⟨gb460, 1, none⟩ = some (.bool a0_1) := (blk_cell BK460.out 1).trans rfl
          have hcz105_2 : wc.cell? ⟨gb460, 2, none⟩ = some (.int .i64 a0_2) := (blk_cell BK460.out 2).trans rfl
          have hfz105_0 := blk_frozen BK460.out 0
          have hfz105_1 := blk_frozen BK460.out 1
          have hfz105_2 := blk_frozen BK460.out 2
          go_wp2_with (first | ((with_reducible refine gate_callee (f := 21) rfl ?_); refine goesL_ (some 36) rfl rfl Try.func21 (by kernel_rfl) rfl #[.agg #[.slice A0_0 l0_0.length c0_0, .bool a0_1, .int .i64 a0_2]] rfl (by (try simp only [List.map_toArray, List.map_cons, List.map_nil]); first | done | rfl | (simp only [List.length_drop, List.length_take]; rfl)) ?_; (with_reducible refine (record_Records.calls kj4 _ _ l0_0 a0_1 a0_2 t463 false _ ?side1 ?side2 A13.out).mono ?_); (case side1 => repeat (first | exact (Kd.C_below HR0_0.out HB.out) | (with_reducible refine Kd.C_alloc ?_ _) | (with_reducible refine Kd.C_drewN ?_ _) | (with_reducible refine Kd.C_drew ?_))); (case side2 => exact HC0_0.out); rintro e w106 ⟨v464, rfl, ho0, hb⟩; refine ⟨_, rfl, ?_⟩; have n0_ := Aside0.mk (Kd.R_lower ho0 (below_size (by repeat (first | (with_reducible first | exact HB.out | apply below_alloc | apply pw_below_drewN | apply below_drew1 | refine below_set ?_ GE460.out) | exact HB.out)))); have n1_ := Aside0.mk (blk_below (g := gb460) (o := .cells #[.slice A0_0 l0_0.length c0_0, .bool a0_1, .int .i64 a0_2] 38 (0, 0)) (by (with_reducible repeat (first | refine blk_drewN ?_ _ | refine blk_drew ?_ | refine blk_alloc ?_ _)); exact BK460.out) hb); have n2_ := Aside0.mk (below_step (by repeat (first | (with_reducible first | exact HB.out | apply below_alloc | apply pw_below_drewN | apply below_drew1 | refine below_set ?_ GE460.out) | exact HB.out)) hb); clear BK460; clear HB; have HO465 := n0_; have BK460 := n1_; have HB := n2_; clear n0_ n1_ n2_; (try clear hb); (try clear hb2); (try clear hk); (try clear hi); (try clear ho0)))
          go_ret
          exact ⟨by first | rfl | (simp [errW_none, errW_some] <;> rfl) | (simp [*, errW_none, errW_some] <;> rfl), by repeat (first | (with_reducible first | exact HB.out | apply below_alloc | apply pw_below_drewN | apply below_drew1 | refine below_set ?_ GE460.out) | exact HB.out)⟩

end Go.Proofs.Ythecldgopjaogaa.PAll
