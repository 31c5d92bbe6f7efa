-- Written for this claim by wip/tools of this repo (after the kit's print; own contracts laid in).
import Derived.Test.YthoigncoojcanaaPAllx0
import Derived.Test.YthoigncoojcanaaPAllx3
namespace Go.Proofs.Ythoigncoojcanaa.PAll
open Go.RowKit Go.Proofs.YthoigncoojcanaaW.PrintWords Go.Proofs.YthoigncoojcanaaW.PrintLast Go.Proofs.YthoigncoojcanaaW.PrintMore
attribute [local go_sem] max2_int min2_int max_two min_two max_three min_three max_four min_four   -- for this text's walks alone
set_option linter.unusedVariables false
set_option linter.unusedSimpArgs false

/-! ### epactlaw09_Few: function 25 -/
def epactlaw09_Few.f (l0_0 : List (S49)) (a0_1 : Bool) (a0_2 : Int) : Option (Bool) := some (decide ((l0_0.length : Int) ≤ 300))
set_option maxHeartbeats 8000000 in
set_option maxRecDepth 100000 in
theorem epactlaw09_Few.calls (A0_0 : Option Addr) (c0_0 : Nat) (l0_0 : List (S49)) (a0_1 : Bool) (a0_2 : Int) (r : Bool) (w : World) (hr0_0 : Kd.C k49 w A0_0 l0_0.length l0_0) (hc0_0 : l0_0.length ≤ c0_0) (h : epactlaw09_Few.f l0_0 a0_1 a0_2 = some r) :
    Calls Try.prog 25 #[.agg #[.slice A0_0 l0_0.length c0_0, .bool a0_1, .int .i64 a0_2]] w fun e w' => e = .returned (.bool r) ∧ Below w.heap.size w w' := by
  have hu44 := Try.underlying44
  have HR0_0 := Aside0.mk hr0_0
  have HC0_0 := Aside0.mk hc0_0
  clear hr0_0 hc0_0
  have HB := Aside0.mk (Below.refl w.heap.size w)
  have H : (some (decide ((l0_0.length : Int) ≤ 300))) = some r := h
  clear h
  obtain rfl := Option.some.inj H
  go_enter Try.func25, Try.ntmps25
  go_wp2_with (first | ((with_reducible refine gate_dst (N := 1) rfl ?_); refine box_event ?hg (N := 1) ?hd (cs := #[.slice A0_0 l0_0.length c0_0, .bool a0_1, .int .i64 a0_2]) (t := 44) ?hr ?_; (case hd => rfl); (case hg => rfl); (case hr => first | (go_simp; done) | (go_simp; rfl)); intro gb409 hg w2 hbox hb; have n0_ := Aside0.mk (below_step (by repeat (first | (with_reducible first | exact HB.out | apply below_alloc | apply pw_below_drewN | apply below_drew1) | exact HB.out)) hb); have n1_ := Aside0.mk (hbox); have n2_ := Aside0.mk ((by rw [hg]; exact (below_size (by repeat (first | (with_reducible first | exact HB.out | apply below_alloc | apply pw_below_drewN | apply below_drew1) | exact HB.out))) : w.heap.size ≤ gb409)); have n3_ := Aside0.mk ((by rw [hg]; exact (below_size (by repeat (first | (with_reducible first | exact HB.out | apply below_alloc | apply pw_below_drewN | apply below_drew1) | exact HB.out))) : w.heap.size ≤ gb409)); clear HB; have HB := n0_; have BK409 := n1_; have GW409 := n2_; have GE409 := n3_; clear n0_ n1_ n2_ n3_; clear hb hbox hg; have hcz3_0 : w2.cell? ⟨gb409, 0, none⟩ = some (.slice A0_0 l0_0.length c0_0) := (blk_cell BK409.out 0).trans rfl; have hcz3_1 : w2.cell? ⟨gb409, 1, none⟩ = some (.bool a0_1) := (blk_cell BK409.out 1).trans rfl; have hcz3_2 : w2.cell? ⟨gb409, 2, none⟩ = some (.int .i64 a0_2) := (blk_cell BK409.out 2).trans rfl; have hfz3_0 := blk_frozen BK409.out 0; have hfz3_1 := blk_frozen BK409.out 1; have hfz3_2 := blk_frozen BK409.out 2))
  go_ret
  exact ⟨by first | rfl | (simp [errW_none, errW_some] <;> rfl) | (simp [*, errW_none, errW_some] <;> rfl), by repeat (first | (with_reducible first | exact HB.out | apply below_alloc | apply pw_below_drewN | apply below_drew1 | refine below_set ?_ GE409.out) | exact HB.out)⟩

-- NOT PRINTED: function 89 (api_Leap_89)

/-! ### api_Leap_63: function 63 -/
-- by hand: wip/hand
def api_Leap_63.f (l0 : List (S49)) (a1 : Nat) : Option (Bool) :=
  if l0.length < 4611686018427387904 ∧ a1 = 61 then some (l0.any (fun y => y.f2)) else none
/-- the closure of Records: is a leap's Roll set? -/
theorem api_Leap_63.clo (x : S49) (w W : World) (hb : Below w.heap.size w W) :
    Calls Try.prog 61 #[.agg #[.int .i64 x.f0, .int .i64 x.f1, .bool x.f2]] W fun e w' => e = .returned (.bool x.f2) ∧ Below w.heap.size w w' := by
  have hu := Try.underlying49
  go_enter Try.func61, Try.ntmps61
  go_wp2
  all_goals go_ret
  all_goals exact ⟨by first | rfl | simp, by first | exact hb.alloc hb.size _ | exact hb⟩
set_option maxHeartbeats 4000000 in
theorem api_Leap_63.idx (A : Option Addr) (l : List (S49)) (c : Nat) (w : World) (hC : Kd.C k49 w A l.length l) (hbig : l.length < 4611686018427387904) :
    Calls Try.prog 89 #[.slice A l.length c, .func (.func 61) #[] #[]] w fun e w' => ∃ r : Int, e = .returned (.int .i64 r) ∧ (decide (r ≥ 0)) = l.any (fun y => y.f2) ∧ Below w.heap.size w w' := by
  have HC := Aside0.mk hC
  clear hC
  have HBIG := Aside0.mk hbig
  clear hbig
  go_enter Try.func89, Try.ntmps89
  go_wp2
  go_loopg [5, 8] l.length (fun gg _ s8 wr => ∃ kk : Nat, kk ≤ l.length ∧ l.length - kk ≤ gg ∧ s8 = .int .i64 kk ∧ Aside (Below w.heap.size w wr) ∧ Aside (∀ y ∈ l.take kk, y.f2 = false))
  case atStart => exact ⟨0, Nat.zero_le _, by omega, rfl, Below.refl _ w, fun y hy => absurd hy (by simp)⟩
  case round =>
    obtain ⟨kk, hkk, hg, rfl, BW, A0⟩ := hrel
    by_cases hlt : kk < l.length
    · have hltz : (kk : Int) < (l.length : Int) := by omega
      obtain ⟨ad, e0, hx0, hx1, hx2⟩ := at_T49 (Kd.C_below HC.out BW.out) (kk : Int) (by omega) (by omega)
      cases e0
      simp only [Int.toNat_natCast] at hx0 hx1 hx2
      have hcall := api_Leap_63.clo (rd_T49 l (kk : Int)) w wr BW.out
      have hy : (rd_T49 l (kk : Int)) = l[kk] := by simp [rd_T49, hlt]
      have HY := Aside0.mk hy
      clear hy
      generalize rd_T49 l (kk : Int) = y at hx0 hx1 hx2 hcall HY
      cases hq : y.f2 with
      | true =>
        rw [hq] at hcall hx2
        go_wp2_with (first | (go_at_call 61; refine hcall.mono ?_; rintro e w' ⟨rfl, hb'⟩) | (go_at_fn 61; refine hcall.mono ?_; rintro e w' ⟨rfl, hb'⟩))
        go_ret
        refine ⟨_, rfl, ?_, hb'⟩
        rw [decide_eq_true (by omega)]
        refine (List.any_eq_true.mpr ⟨y, ?_, hq⟩).symm
        rw [HY.out]; exact List.getElem_mem hlt
      | false =>
        rw [hq] at hcall hx2
        go_wp2_with (first | (go_at_call 61; refine hcall.mono ?_; rintro e w' ⟨rfl, hb'⟩) | (go_at_fn 61; refine hcall.mono ?_; rintro e w' ⟨rfl, hb'⟩))
        go_roundg (l.length - (kk + 1))
        case measure => omega
        case rel =>
          refine ⟨kk + 1, by omega, by omega, by (have := HBIG.out; refine congrArg (Value.int .i64) ?_; unfold wrap64; omega), hb', (show Aside _ from fun z hz => ?_)⟩
          rw [List.take_succ_eq_append_getElem hlt, List.mem_append, List.mem_singleton] at hz
          rcases hz with hz | hz
          · exact A0.out z hz
          · rw [hz, ← HY.out]; exact hq
    · have hltz : ¬ (kk : Int) < (l.length : Int) := by omega
      have : kk = l.length := by omega
      subst this
      go_wp2
      go_ret
      refine ⟨_, rfl, ?_, BW.out⟩
      rw [decide_eq_false (by omega)]
      have := A0.out
      rw [List.take_length] at this
      exact (List.any_eq_false.mpr (fun z hz => by rw [this z hz]; simp)).symm
set_option maxHeartbeats 4000000 in
theorem api_Leap_63.calls (A0 : Option Addr) (c0 : Nat) (l0 : List (S49)) (a1 : Nat) (r : Bool) (w : World) (hr0 : Kd.C k49 w A0 l0.length l0) (hc0 : l0.length ≤ c0) (h : api_Leap_63.f l0 a1 = some r) :
    Calls Try.prog 63 #[.slice A0 l0.length c0, .func (.func a1) #[] #[]] w fun e w' => e = .returned (.bool r) ∧ Below w.heap.size w w' := by
  unfold api_Leap_63.f at h
  by_cases hs : l0.length < 4611686018427387904 ∧ a1 = 61
  · rw [if_pos hs] at h
    obtain ⟨hsz, rfl⟩ := hs
    obtain rfl := Option.some.inj h
    clear h
    have hI := Aside0.mk (api_Leap_63.idx A0 l0 c0 w hr0 hsz)
    go_enter Try.func63, Try.ntmps63
    go_wp2_with (go_at_call 89; refine hI.out.mono ?_; rintro e w' ⟨r, rfl, hd, hb⟩)
    go_ret
    exact ⟨by rw [← hd]; rfl, hb⟩
  · rw [if_neg hs] at h; exact absurd h (by simp)

/-! ### record_Records: function 26 -/
mutual
def record_Records.j0 : Nat → List (S53) → Bool → List (S49) → Bool → Int → Option ((List (S53)) × Bool)
  | 0, _, _, _, _, _ => none
  | k + 1, x2, x17, x412000, x412001, x412002 => if x17 = true then (some (([] : List (S53)), false)) else (record_Records.l0 k x2 0 x412000 (x412000.length : Int) 0 x412000 x412001 x412002)
def record_Records.l0 : Nat → List (S53) → Int → List (S49) → Int → Int → List (S49) → Bool → Int → Option ((List (S53)) × Bool)
  | 0, _, _, _, _, _, _, _, _ => none
  | k + 1, x2, x5, x19, x20, x21, x412000, x412001, x412002 => if x21 < x20 then (if 0 ≤ x21 then (if x21 < (x19.length : Int) then (if x2.length < 8796093022208 then (record_Records.l0 k (x2 ++ [(⟨wrap64 ((wrap64 ((wrap64 ((wrap64 (((rd_T49 x19 x21).f0) + 1)) * 86400)) + x5)) + (mn ((rd_T49 x19 x21).f1) 0)), wrap64 (x5 + ((rd_T49 x19 x21).f1))⟩ : S53)]) (wrap64 (x5 + ((rd_T49 x19 x21).f1))) x19 x20 (wrap64 (x21 + 1)) x412000 x412001 x412002) else (none)) else (none)) else (none)) else (if x412001 = true then (if x2.length < 8796093022208 then (some ((x2 ++ [(⟨wrap64 (x412002 + x5), x5⟩ : S53)]), true)) else (none)) else (some (x2, true)))
end
def record_Records.f (k : Nat) (l0_0 : List (S49)) (a0_1 : Bool) (a0_2 : Int) : Option ((List (S53)) × Bool) := (leap_Right.f k l0_0 a0_1 a0_2).bind fun t412 => (if t412 = true then ((api_Leap_63.f l0_0 61).bind fun t413 => (record_Records.j0 k ([] : List (S53)) t413 l0_0 a0_1 a0_2)) else (record_Records.j0 k ([] : List (S53)) true l0_0 a0_1 a0_2))
theorem record_Records.mono_l : ∀ k, (∀ y0 y1 y2 y3 y4, LeO (record_Records.j0 k y0 y1 y2 y3 y4) (record_Records.j0 (k + 1) y0 y1 y2 y3 y4)) ∧ (∀ y0 y1 y2 y3 y4 y5 y6 y7, LeO (record_Records.l0 k y0 y1 y2 y3 y4 y5 y6 y7) (record_Records.l0 (k + 1) y0 y1 y2 y3 y4 y5 y6 y7))
  | 0 => ⟨fun _ _ _ _ _ r h => by simp [record_Records.j0] at h, fun _ _ _ _ _ _ _ _ r h => by simp [record_Records.l0] at h⟩
  | k + 1 => by
    obtain ⟨ih0, ih1⟩ := record_Records.mono_l k
    refine ⟨?_, ?_⟩
    · intro y0 y1 y2 y3 y4
      unfold record_Records.j0
      repeat' first
      | (with_reducible exact ih0 _ _ _ _ _)
      | (with_reducible exact ih1 _ _ _ _ _ _ _ _)
      | (with_reducible exact leap_Right.mono _ _ _ _)
      | (with_reducible exact LeO.refl _)
      | (with_reducible exact LeO.none _)
      | (with_reducible refine LeO.ite ?_ ?_)
      | (with_reducible refine LeO.bind ?_ (fun _ => ?_))
      | exact ih0 _ _ _ _ _
      | exact ih1 _ _ _ _ _ _ _ _
      | exact leap_Right.mono _ _ _ _
      | exact LeO.none _
      | refine LeO.ite ?_ ?_
      | refine LeO.bind ?_ (fun _ => ?_)
    · intro y0 y1 y2 y3 y4 y5 y6 y7
      unfold record_Records.l0
      repeat' first
      | (with_reducible exact ih0 _ _ _ _ _)
      | (with_reducible exact ih1 _ _ _ _ _ _ _ _)
      | (with_reducible exact leap_Right.mono _ _ _ _)
      | (with_reducible exact LeO.refl _)
      | (with_reducible exact LeO.none _)
      | (with_reducible refine LeO.ite ?_ ?_)
      | (with_reducible refine LeO.bind ?_ (fun _ => ?_))
      | exact ih0 _ _ _ _ _
      | exact ih1 _ _ _ _ _ _ _ _
      | exact leap_Right.mono _ _ _ _
      | exact LeO.none _
      | refine LeO.ite ?_ ?_
      | refine LeO.bind ?_ (fun _ => ?_)
theorem record_Records.mono : ∀ a0 a1 a2 k, LeO (record_Records.f k a0 a1 a2) (record_Records.f (k + 1) a0 a1 a2) := by
  intro a0 a1 a2 k
  obtain ⟨ih0, ih1⟩ := record_Records.mono_l k
  unfold record_Records.f
  repeat' first
      | (with_reducible exact ih0 _ _ _ _ _)
      | (with_reducible exact ih1 _ _ _ _ _ _ _ _)
      | (with_reducible exact leap_Right.mono _ _ _ _)
      | (with_reducible exact LeO.refl _)
      | (with_reducible exact LeO.none _)
      | (with_reducible refine LeO.ite ?_ ?_)
      | (with_reducible refine LeO.bind ?_ (fun _ => ?_))
      | exact ih0 _ _ _ _ _
      | exact ih1 _ _ _ _ _ _ _ _
      | exact leap_Right.mono _ _ _ _
      | exact LeO.none _
      | refine LeO.ite ?_ ?_
      | refine LeO.bind ?_ (fun _ => ?_)
set_option maxHeartbeats 8000000 in
set_option maxRecDepth 100000 in
theorem record_Records.calls (k : Nat) (A0_0 : Option Addr) (c0_0 : Nat) (l0_0 : List (S49)) (a0_1 : Bool) (a0_2 : Int) (r1 : List (S53)) (r2 : Bool) (w : World) (hr0_0 : Kd.C k49 w A0_0 l0_0.length l0_0) (hc0_0 : l0_0.length ≤ c0_0) (h : record_Records.f k l0_0 a0_1 a0_2 = some (r1, r2)) :
    Calls Try.prog 26 #[.agg #[.slice A0_0 l0_0.length c0_0, .bool a0_1, .int .i64 a0_2]] w fun e w' => ∃ v0_ : Value, e = .returned (.tuple #[v0_, .bool r2]) ∧ Kd.R k53 53 w' w.heap.size (fun _ => True) v0_ r1 ∧ Below w.heap.size w w' := by
  have hu44 := Try.underlying44
  have hu49 := Try.underlying49
  have hu53 := Try.underlying53
  have HR0_0 := Aside0.mk hr0_0
  have HC0_0 := Aside0.mk hc0_0
  clear hr0_0 hc0_0
  have HB := Aside0.mk (Below.refl w.heap.size w)
  have H : ((leap_Right.f k l0_0 a0_1 a0_2).bind fun t412 => (if t412 = true then ((api_Leap_63.f l0_0 61).bind fun t413 => (record_Records.j0 k ([] : List (S53)) t413 l0_0 a0_1 a0_2)) else (record_Records.j0 k ([] : List (S53)) true l0_0 a0_1 a0_2))) = some (r1, r2) := h
  clear h
  have HC2 := Aside0.mk H
  clear H
  go_enter Try.func26, Try.ntmps26
  go_upto_region 2 with (first | ((with_reducible refine gate_dst (N := 1) rfl ?_); refine box_event ?hg (N := 1) ?hd (cs := #[.slice A0_0 l0_0.length c0_0, .bool a0_1, .int .i64 a0_2]) (t := 44) ?hr ?_; (case hd => rfl); (case hg => rfl); (case hr => first | (go_simp; done) | (go_simp; rfl)); intro gb411 hg w3 hbox hb; have n0_ := Aside0.mk (below_step (by repeat (first | (with_reducible first | exact HB.out | apply below_alloc | apply pw_below_drewN | apply below_drew1) | exact HB.out)) hb); have n1_ := Aside0.mk (hbox); have n2_ := Aside0.mk ((by rw [hg]; exact (below_size (by repeat (first | (with_reducible first | exact HB.out | apply below_alloc | apply pw_below_drewN | apply below_drew1) | exact HB.out))) : w.heap.size ≤ gb411)); have n3_ := Aside0.mk ((by rw [hg]; exact (below_size (by repeat (first | (with_reducible first | exact HB.out | apply below_alloc | apply pw_below_drewN | apply below_drew1) | exact HB.out))) : w.heap.size ≤ gb411)); clear HB; have HB := n0_; have BK411 := n1_; have GW411 := n2_; have GE411 := n3_; clear n0_ n1_ n2_ n3_; clear hb hbox hg))
  (try simp only [Act.put, List.setIfInBounds_toArray, List.set_cons_zero, List.set_cons_succ])
  go_cut [17] (fun v17 wc => ∃ (kq : Nat) (x17_1 : Bool), v17 = .bool x17_1 ∧ Aside0 (record_Records.j0 kq ([] : List (S53)) x17_1 l0_0 a0_1 a0_2 = some (r1, r2)) ∧ Aside0 (kq ≤ k) ∧ Aside0 (Kd.R k53 53 wc w.heap.size (fun _ => True) (.slice none 0 0) ([] : List (S53))) ∧ Aside0 (wc.heap[gb411]? = some (.cells #[(.slice A0_0 l0_0.length c0_0), .bool a0_1, .int .i64 a0_2] 44 (0, 0))) ∧ Aside0 (Below w.heap.size w wc))
  case first =>
    have H := HC2.out
    clear HC2
    replace H := Option.bind_eq_some_iff.mp H
    obtain ⟨t412, A40, H⟩ := H
    replace H : (if t412 = true then ((api_Leap_63.f l0_0 61).bind fun t413 => (record_Records.j0 k ([] : List (S53)) t413 l0_0 a0_1 a0_2)) else (record_Records.j0 k ([] : List (S53)) true l0_0 a0_1 a0_2)) = some (r1, r2) := H
    have A4 := Aside0.mk A40
    clear A40
    by_cases c5 : t412 = true
    · subst c5
      have H1 : ((api_Leap_63.f l0_0 61).bind fun t413 => (record_Records.j0 k ([] : List (S53)) t413 l0_0 a0_1 a0_2)) = some (r1, r2) := by rw [if_pos rfl] at H; exact H
      clear H
      have H := H1
      clear H1
      replace H := Option.bind_eq_some_iff.mp H
      obtain ⟨t413, A60, H⟩ := H
      replace H : (record_Records.j0 k ([] : List (S53)) t413 l0_0 a0_1 a0_2) = some (r1, r2) := H
      have A6 := Aside0.mk A60
      clear A60
      have H' := Aside0.mk H
      clear H
      have hcz7_0 : w3.cell? ⟨gb411, 0, none⟩ = some (.slice A0_0 l0_0.length c0_0) := (blk_cell BK411.out 0).trans rfl
      have hcz7_1 : w3.cell? ⟨gb411, 1, none⟩ = some (.bool a0_1) := (blk_cell BK411.out 1).trans rfl
      have hcz7_2 : w3.cell? ⟨gb411, 2, none⟩ = some (.int .i64 a0_2) := (blk_cell BK411.out 2).trans rfl
      have hfz7_0 := blk_frozen BK411.out 0
      have hfz7_1 := blk_frozen BK411.out 1
      have hfz7_2 := blk_frozen BK411.out 2
      go_wp2_with (first | ((with_reducible refine gate_callee (f := 62) rfl ?_); refine goesL_ (some 10) rfl rfl Try.func62 (by kernel_rfl) rfl #[.agg #[.slice A0_0 l0_0.length c0_0, .bool a0_1, .int .i64 a0_2]] rfl (by (try simp only [List.map_toArray, List.map_cons, List.map_nil]); first | done | rfl | (simp only [List.length_drop, List.length_take]; rfl)) ?_; (with_reducible refine (leap_Right.calls k _ _ l0_0 a0_1 a0_2 true _ ?side1 ?side2 A4.out).mono ?_); (case side1 => repeat (first | exact (Kd.C_below HR0_0.out HB.out) | (with_reducible refine Kd.C_alloc ?_ _) | (with_reducible refine Kd.C_drewN ?_ _) | (with_reducible refine Kd.C_drew ?_))); (case side2 => exact HC0_0.out); rintro e w8 ⟨rfl, hb⟩; refine ⟨_, rfl, ?_⟩; have n0_ := Aside0.mk (blk_below (g := gb411) (o := .cells #[.slice A0_0 l0_0.length c0_0, .bool a0_1, .int .i64 a0_2] 44 (0, 0)) (by (with_reducible repeat (first | refine blk_drewN ?_ _ | refine blk_drew ?_ | refine blk_alloc ?_ _)); exact BK411.out) hb); have n1_ := Aside0.mk (below_step (by repeat (first | (with_reducible first | exact HB.out | apply below_alloc | apply pw_below_drewN | apply below_drew1 | refine below_set ?_ GE411.out) | exact HB.out)) hb); clear BK411; clear HB; have BK411 := n0_; have HB := n1_; clear n0_ n1_; (try clear hb); (try clear hb2); (try clear hk); (try clear hi); have hcz9_0 : w8.cell? ⟨gb411, 0, none⟩ = some (.slice A0_0 l0_0.length c0_0) := (blk_cell BK411.out 0).trans rfl; have hcz9_1 : w8.cell? ⟨gb411, 1, none⟩ = some (.bool a0_1) := (blk_cell BK411.out 1).trans rfl; have hcz9_2 : w8.cell? ⟨gb411, 2, none⟩ = some (.int .i64 a0_2) := (blk_cell BK411.out 2).trans rfl; have hfz9_0 := blk_frozen BK411.out 0; have hfz9_1 := blk_frozen BK411.out 1; have hfz9_2 := blk_frozen BK411.out 2) | (go_at_call 63; (with_reducible refine (api_Leap_63.calls _ _ l0_0 61 t413 _ ?side1 ?side2 A6.out).mono ?_); (case side1 => repeat (first | exact (Kd.C_below HR0_0.out HB.out) | (with_reducible refine Kd.C_alloc ?_ _) | (with_reducible refine Kd.C_drewN ?_ _) | (with_reducible refine Kd.C_drew ?_))); (case side2 => exact HC0_0.out); rintro e w10 ⟨rfl, hb⟩; have n0_ := Aside0.mk (blk_below (g := gb411) (o := .cells #[.slice A0_0 l0_0.length c0_0, .bool a0_1, .int .i64 a0_2] 44 (0, 0)) (by (with_reducible repeat (first | refine blk_drewN ?_ _ | refine blk_drew ?_ | refine blk_alloc ?_ _)); exact BK411.out) hb); have n1_ := Aside0.mk (below_step (by repeat (first | (with_reducible first | exact HB.out | apply below_alloc | apply pw_below_drewN | apply below_drew1 | refine below_set ?_ GE411.out) | exact HB.out)) hb); clear BK411; clear HB; have BK411 := n0_; have HB := n1_; clear n0_ n1_; (try clear hb); (try clear hb2); (try clear hk); (try clear hi)))
      go_meet
      case rel => exact ⟨_, (t413), (by first | rfl | (simp; done) | (simp [*]; done)), H', ⟨by first | omega | exact Nat.le_refl _⟩, ⟨by first | exact Kd.R_nil _ _ _ _ _ | exact Kd.N_nil _ _ _ _ _ | exact Kd.V_nil _ _ _ _ _ | exact Kd.Q_nil _ _ _ _ _ | exact Kd.S_nil _ _ _ _ _⟩, ⟨by (with_reducible repeat (first | refine blk_drewN ?_ _ | refine blk_drew ?_ | refine blk_alloc ?_ _)); exact BK411.out⟩, ⟨by repeat (first | (with_reducible first | exact HB.out | apply below_alloc | apply pw_below_drewN | apply below_drew1 | refine below_set ?_ GE411.out) | exact HB.out)⟩⟩
    · replace c5 := Bool.eq_false_iff.mpr c5
      subst c5
      have H1 : (record_Records.j0 k ([] : List (S53)) true l0_0 a0_1 a0_2) = some (r1, r2) := by rw [if_neg (show ¬ (false = true) by decide)] at H; exact H
      clear H
      have H := H1
      clear H1
      have H' := Aside0.mk H
      clear H
      have hcz11_0 : w3.cell? ⟨gb411, 0, none⟩ = some (.slice A0_0 l0_0.length c0_0) := (blk_cell BK411.out 0).trans rfl
      have hcz11_1 : w3.cell? ⟨gb411, 1, none⟩ = some (.bool a0_1) := (blk_cell BK411.out 1).trans rfl
      have hcz11_2 : w3.cell? ⟨gb411, 2, none⟩ = some (.int .i64 a0_2) := (blk_cell BK411.out 2).trans rfl
      have hfz11_0 := blk_frozen BK411.out 0
      have hfz11_1 := blk_frozen BK411.out 1
      have hfz11_2 := blk_frozen BK411.out 2
      go_wp2_with (first | ((with_reducible refine gate_callee (f := 62) rfl ?_); refine goesL_ (some 10) rfl rfl Try.func62 (by kernel_rfl) rfl #[.agg #[.slice A0_0 l0_0.length c0_0, .bool a0_1, .int .i64 a0_2]] rfl (by (try simp only [List.map_toArray, List.map_cons, List.map_nil]); first | done | rfl | (simp only [List.length_drop, List.length_take]; rfl)) ?_; (with_reducible refine (leap_Right.calls k _ _ l0_0 a0_1 a0_2 false _ ?side1 ?side2 A4.out).mono ?_); (case side1 => repeat (first | exact (Kd.C_below HR0_0.out HB.out) | (with_reducible refine Kd.C_alloc ?_ _) | (with_reducible refine Kd.C_drewN ?_ _) | (with_reducible refine Kd.C_drew ?_))); (case side2 => exact HC0_0.out); rintro e w12 ⟨rfl, hb⟩; refine ⟨_, rfl, ?_⟩; have n0_ := Aside0.mk (blk_below (g := gb411) (o := .cells #[.slice A0_0 l0_0.length c0_0, .bool a0_1, .int .i64 a0_2] 44 (0, 0)) (by (with_reducible repeat (first | refine blk_drewN ?_ _ | refine blk_drew ?_ | refine blk_alloc ?_ _)); exact BK411.out) hb); have n1_ := Aside0.mk (below_step (by repeat (first | (with_reducible first | exact HB.out | apply below_alloc | apply pw_below_drewN | apply below_drew1 | refine below_set ?_ GE411.out) | exact HB.out)) hb); clear BK411; clear HB; have BK411 := n0_; have HB := n1_; clear n0_ n1_; (try clear hb); (try clear hb2); (try clear hk); (try clear hi)))
      go_meet
      case rel => exact ⟨_, (true), (by first | rfl | (simp; done) | (simp [*]; done)), H', ⟨by first | omega | exact Nat.le_refl _⟩, ⟨by first | exact Kd.R_nil _ _ _ _ _ | exact Kd.N_nil _ _ _ _ _ | exact Kd.V_nil _ _ _ _ _ | exact Kd.Q_nil _ _ _ _ _ | exact Kd.S_nil _ _ _ _ _⟩, ⟨by (with_reducible repeat (first | refine blk_drewN ?_ _ | refine blk_drew ?_ | refine blk_alloc ?_ _)); exact BK411.out⟩, ⟨by repeat (first | (with_reducible first | exact HB.out | apply below_alloc | apply pw_below_drewN | apply below_drew1 | refine below_set ?_ GE411.out) | exact HB.out)⟩⟩
  case rest =>
    clear HC2
    try clear c2
    try clear p2
    try clear c5
    try clear c6
    try clear hcz11_0
    try clear hcz11_1
    try clear hcz11_2
    try clear hcz7_0
    try clear hcz7_1
    try clear hcz7_2
    try clear hcz9_0
    try clear hcz9_1
    try clear hcz9_2
    try clear hfz11_0
    try clear hfz11_1
    try clear hfz11_2
    try clear hfz7_0
    try clear hfz7_1
    try clear hfz7_2
    try clear hfz9_0
    try clear hfz9_1
    try clear hfz9_2
    obtain ⟨kq, x17_1, rfl, HA, HJ1, HO_2, BK411, HB⟩ := hcut
    cases kq with
    | zero => exact absurd HA.out (by simp [record_Records.j0])
    | succ kj1 =>
      have H := HA.out
      clear HA
      simp only [record_Records.j0] at H
      by_cases c13 : x17_1 = true
      · subst c13
        have H1 : (some (([] : List (S53)), false)) = some (r1, r2) := by rw [if_pos rfl] at H; exact H
        clear H
        have H := H1
        clear H1
        simp only [Option.some.injEq, Prod.mk.injEq] at H
        obtain ⟨rfl, rfl⟩ := H
        go_wp2
        go_ret2
        exact ⟨_, by first | rfl | (simp [errW_none, errW_some] <;> rfl) | (simp [*, errW_none, errW_some] <;> rfl), by first | exact Kd.R_nil _ _ _ _ _ | exact Kd.N_nil _ _ _ _ _ | exact Kd.V_nil _ _ _ _ _ | exact Kd.Q_nil _ _ _ _ _ | exact Kd.S_nil _ _ _ _ _, by repeat (first | (with_reducible first | exact HB.out | apply below_alloc | apply pw_below_drewN | apply below_drew1 | refine below_set ?_ GE411.out) | exact HB.out)⟩
      · replace c13 := Bool.eq_false_iff.mpr c13
        subst c13
        have H1 : (record_Records.l0 kj1 ([] : List (S53)) 0 l0_0 (l0_0.length : Int) 0 l0_0 a0_1 a0_2) = some (r1, r2) := by rw [if_neg (show ¬ (false = true) by decide)] at H; exact H
        clear H
        have H := H1
        clear H1
        have H' := Aside0.mk H
        clear H
        have hcz14_0 : wc.cell? ⟨gb411, 0, none⟩ = some (.slice A0_0 l0_0.length c0_0) := (blk_cell BK411.out 0).trans rfl
        have hcz14_1 : wc.cell? ⟨gb411, 1, none⟩ = some (.bool a0_1) := (blk_cell BK411.out 1).trans rfl
        have hcz14_2 : wc.cell? ⟨gb411, 2, none⟩ = some (.int .i64 a0_2) := (blk_cell BK411.out 2).trans rfl
        have hfz14_0 := blk_frozen BK411.out 0
        have hfz14_1 := blk_frozen BK411.out 1
        have hfz14_2 := blk_frozen BK411.out 2
        go_wp2
        go_loopg [2, 5, 21] kj1 (fun kq v2 v5 v21 w' => ∃ (x2_2 : List (S53)) (x5_2 : Int) (x21_2 : Int), v5 = .int .i64 x5_2 ∧ v21 = .int .i64 x21_2 ∧ Aside0 (record_Records.l0 kq x2_2 x5_2 l0_0 (l0_0.length : Int) x21_2 l0_0 a0_1 a0_2 = some (r1, r2)) ∧ Aside0 (kq ≤ kj1) ∧ Aside0 (Kd.R k53 53 w' w.heap.size (fun _ => True) v2 x2_2) ∧ Aside0 (w'.heap[gb411]? = some (.cells #[(.slice A0_0 l0_0.length c0_0), .bool a0_1, .int .i64 a0_2] 44 (0, 0))) ∧ Aside0 (Below w.heap.size w w'))
        case atStart => exact ⟨(([] : List (S53))), (0), (0), (by first | rfl | (simp; done) | (simp [*]; done)), (by first | rfl | (simp; done) | (simp [*]; done)), H', ⟨Nat.le_refl _⟩, ⟨by (with_reducible repeat (first | apply Kd.R_alloc | apply Kd.R_drewN | apply Kd.R_drew)); exact HO_2.out⟩, ⟨by (with_reducible repeat (first | refine blk_drewN ?_ _ | refine blk_drew ?_ | refine blk_alloc ?_ _)); exact BK411.out⟩, ⟨by repeat (first | (with_reducible first | exact HB.out | apply below_alloc | apply pw_below_drewN | apply below_drew1 | refine below_set ?_ GE411.out) | exact HB.out)⟩⟩
        case round =>
          clear H'
          try clear c1
          try clear c2
          try clear p2
          try clear c5
          try clear c6
          try clear c13
          try clear hcz11_0
          try clear hcz11_1
          try clear hcz11_2
          try clear hcz14_0
          try clear hcz14_1
          try clear hcz14_2
          try clear hcz7_0
          try clear hcz7_1
          try clear hcz7_2
          try clear hcz9_0
          try clear hcz9_1
          try clear hcz9_2
          try clear hfz11_0
          try clear hfz11_1
          try clear hfz11_2
          try clear hfz14_0
          try clear hfz14_1
          try clear hfz14_2
          try clear hfz7_0
          try clear hfz7_1
          try clear hfz7_2
          try clear hfz9_0
          try clear hfz9_1
          try clear hfz9_2
          try clear p2
          obtain ⟨x2_2, x5_2, x21_2, rfl, rfl, HA, HK2, HO_2, BK411, HB⟩ := hrel
          cases gk with
          | zero => exact absurd HA.out (by simp [record_Records.l0])
          | succ k2 =>
            have H := HA.out
            clear HA
            simp only [record_Records.l0] at H
            by_cases c15 : x21_2 < (l0_0.length : Int)
            · rw [if_pos c15] at H
              have c15b0 : decide (x21_2 < (l0_0.length : Int)) = true := decide_eq_true c15
              clear c15
              by_cases c16 : 0 ≤ x21_2
              · rw [if_pos c16] at H
                have c16b0 : decide (0 ≤ x21_2) = true := decide_eq_true c16
                clear c16
                by_cases c17 : x21_2 < (l0_0.length : Int)
                · rw [if_pos c17] at H
                  have c17b0 : decide (x21_2 < (l0_0.length : Int)) = true := decide_eq_true c17
                  clear c17
                  obtain ⟨ji18, hji18⟩ : ∃ j_ : Int, (mn ((rd_T49 l0_0 x21_2).f1) 0) = j_ := ⟨_, rfl⟩
                  replace H : (if x2_2.length < 8796093022208 then (record_Records.l0 k2 (x2_2 ++ [(⟨wrap64 ((wrap64 ((wrap64 ((wrap64 (((rd_T49 l0_0 x21_2).f0) + 1)) * 86400)) + x5_2)) + (ji18)), wrap64 (x5_2 + ((rd_T49 l0_0 x21_2).f1))⟩ : S53)]) (wrap64 (x5_2 + ((rd_T49 l0_0 x21_2).f1))) l0_0 (l0_0.length : Int) (wrap64 (x21_2 + 1)) l0_0 a0_1 a0_2) else (none)) = some (r1, r2) := by first | (rw [hji18] at H; exact H) | (simp only [hji18] at H ⊢; exact H)
                  have hji18_ : (if 0 < ((rd_T49 l0_0 x21_2).f1) then 0 else ((rd_T49 l0_0 x21_2).f1)) = ji18 := hji18
                  by_cases c19 : x2_2.length < 8796093022208
                  · rw [if_pos c19] at H
                    have LMc19 := Aside0.mk c19
                    clear c19
                    obtain ⟨y416, hy416⟩ : ∃ y_ : List (S53), y_ = (x2_2 ++ [(⟨wrap64 ((wrap64 ((wrap64 ((wrap64 (((rd_T49 l0_0 x21_2).f0) + 1)) * 86400)) + x5_2)) + (ji18)), wrap64 (x5_2 + ((rd_T49 l0_0 x21_2).f1))⟩ : S53)]) := ⟨_, rfl⟩
                    replace H : (record_Records.l0 k2 y416 (wrap64 (x5_2 + ((rd_T49 l0_0 x21_2).f1))) l0_0 (l0_0.length : Int) (wrap64 (x21_2 + 1)) l0_0 a0_1 a0_2) = some (r1, r2) := by first | (rw [hy416]; with_reducible exact H) | (have H2_ := (Option.bind_some _ _).symm.trans H; rw [hy416]; with_reducible exact H2_) | (have H2_ := (Option.bind_some _ _).symm.trans H; with_reducible exact H2_) | with_reducible exact H | (rw [hy416]; exact H) | exact H
                    have Ny416 := Aside0.mk hy416
                    clear hy416
                    have H' := Aside0.mk H
                    clear H
                    have p414 : 0 ≤ (x21_2 : Int) := of_decide_eq_true (by first | (with_reducible assumption) | assumption)
                    have q414 : x21_2 < (l0_0.length : Int) := of_decide_eq_true (by first | (with_reducible assumption) | assumption)
                    obtain ⟨ad414, e414, hx414_0, hx414_1, hx414_2⟩ := at_T49 HR0_0.out x21_2 p414 q414
                    cases e414
                    replace hx414_0 := (HB.out.cell (World.block_lt_of_cell? w _ hx414_0)).trans hx414_0
                    replace hx414_1 := (HB.out.cell (World.block_lt_of_cell? w _ hx414_1)).trans hx414_1
                    replace hx414_2 := (HB.out.cell (World.block_lt_of_cell? w _ hx414_2)).trans hx414_2
                    replace p414 := eq_true p414
                    replace q414 := eq_true q414
                    go_wp2_with (first | ((with_reducible refine gate_dst (N := 7) rfl ?_); refine box_event ?hg (N := 7) ?hd (cs := #[.int .i64 0, .int .i64 0, .bool false]) (t := 49) ?hr ?_; (case hd => rfl); (case hg => rfl); (case hr => first | (go_simp; done) | (go_simp; rfl)); intro gb415 hg w20 hbox hb; have n0_ := Aside0.mk (Kd.R_below (by (with_reducible repeat (first | apply Kd.R_alloc | apply Kd.R_drewN | apply Kd.R_drew)); exact HO_2.out) hb); have n1_ := Aside0.mk (blk_below (g := gb411) (o := .cells #[.slice (some ad414) l0_0.length c0_0, .bool a0_1, .int .i64 a0_2] 44 (0, 0)) (by (with_reducible repeat (first | refine blk_drewN ?_ _ | refine blk_drew ?_ | refine blk_alloc ?_ _)); exact BK411.out) hb); have n2_ := Aside0.mk (below_step (by repeat (first | (with_reducible first | exact HB.out | apply below_alloc | apply pw_below_drewN | apply below_drew1 | refine below_set ?_ GE411.out) | exact HB.out)) hb); have n3_ := Aside0.mk (hbox); have n4_ := Aside0.mk ((by rw [hg]; exact (below_size (by repeat (first | (with_reducible first | exact HB.out | apply below_alloc | apply pw_below_drewN | apply below_drew1 | refine below_set ?_ GE411.out) | exact HB.out))) : w.heap.size ≤ gb415)); have n5_ := Aside0.mk ((by rw [hg]; exact (below_size (by repeat (first | (with_reducible first | exact HB.out | apply below_alloc | apply pw_below_drewN | apply below_drew1 | refine below_set ?_ GE411.out) | exact HB.out))) : w.heap.size ≤ gb415)); have n6_ := Aside0.mk ((by rw [hg]; exact Nat.ne_of_lt (blk_lt (g := gb411) (o := .cells #[.slice (some ad414) l0_0.length c0_0, .bool a0_1, .int .i64 a0_2] 44 (0, 0)) (by (with_reducible repeat (first | refine blk_drewN ?_ _ | refine blk_drew ?_ | refine blk_alloc ?_ _)); exact BK411.out)) : gb411 ≠ gb415)); have n7_ := Aside0.mk ((by rw [hg]; exact Nat.ne_of_gt (blk_lt (g := gb411) (o := .cells #[.slice (some ad414) l0_0.length c0_0, .bool a0_1, .int .i64 a0_2] 44 (0, 0)) (by (with_reducible repeat (first | refine blk_drewN ?_ _ | refine blk_drew ?_ | refine blk_alloc ?_ _)); exact BK411.out)) : gb415 ≠ gb411)); clear HO_2; clear BK411; clear HB; have HO_2 := n0_; have BK411 := n1_; have HB := n2_; have BK415 := n3_; have GW415 := n4_; have GE415 := n5_; have NB411_415 := n6_; have NB415_411 := n7_; clear n0_ n1_ n2_ n3_ n4_ n5_ n6_ n7_; clear hb hbox hg; have hnb21 := NB415_411.out; have hnc21 := NB411_415.out; have hcz22_0 : w20.cell? ⟨gb415, 0, none⟩ = some (.int .i64 0) := (blk_cell BK415.out 0).trans rfl; have hcz22_1 : w20.cell? ⟨gb415, 1, none⟩ = some (.int .i64 0) := (blk_cell BK415.out 1).trans rfl; have hcz22_2 : w20.cell? ⟨gb415, 2, none⟩ = some (.bool false) := (blk_cell BK415.out 2).trans rfl; have hfz22_0 := blk_frozen BK415.out 0; have hfz22_1 := blk_frozen BK415.out 1; have hfz22_2 := blk_frozen BK415.out 2) | ((with_reducible refine gate_builtin (b := .append) (xs := #[.tmp 39, .tmp 43]) rfl ?_); at_builtin; refine Kd.R_append k53 (w0 := w) w.heap.size rfl (.tmp 39) (.tmp 43) 22 53 (.agg #[(.int .i64 0), (.int .i64 0)]) 16 rfl Try.underlying22 info53 rfl (by decide) (by omega) u2 x2_2 (⟨wrap64 ((wrap64 ((wrap64 ((wrap64 (((rd_T49 l0_0 x21_2).f0) + 1)) * 86400)) + x5_2)) + (ji18)), wrap64 (x5_2 + ((rd_T49 l0_0 x21_2).f1))⟩ : S53) [.int .i64 (wrap64 ((wrap64 ((wrap64 ((wrap64 (((rd_T49 l0_0 x21_2).f0) + 1)) * 86400)) + x5_2)) + (ji18))), .int .i64 (wrap64 (x5_2 + ((rd_T49 l0_0 x21_2).f1)))] (fun _ => True) (fun _ => False) rfl (by first | (go_simp; done) | (go_simp; rfl)) ?aP (fun _ hk => hk.elim) ?aF ?aO ?aB ?aS ?aL ?_; (case aP => exact k53_mkM _ _ _ (⟨wrap64 ((wrap64 ((wrap64 ((wrap64 (((rd_T49 l0_0 x21_2).f0) + 1)) * 86400)) + x5_2)) + (ji18)), wrap64 (x5_2 + ((rd_T49 l0_0 x21_2).f1))⟩ : S53)); (case aB => exact (by repeat (first | (with_reducible first | exact HB.out | apply below_alloc | apply pw_below_drewN | apply below_drew1 | refine below_set ?_ GE411.out | refine below_set ?_ GE415.out) | exact HB.out))); (case aF => exact (fun _ _ => trivial)); (case aO => exact (by (with_reducible repeat (first | apply Kd.R_alloc | apply Kd.R_drewN | apply Kd.R_drew)); exact Kd.R_mono (Kd.R_far (p := ⟨gb415, 2, none⟩) (Kd.R_far (p := ⟨gb415, 1, none⟩) (Kd.R_far (p := ⟨gb415, 0, none⟩) (Kd.R_types HO_2.out BK415.out (by decide)) (fun _ hk => hk.2) (.int .i64 ((rd_T49 l0_0 x21_2).f0))) (fun _ hk => hk.2) (.int .i64 ((rd_T49 l0_0 x21_2).f1))) (fun _ hk => hk.2) (.bool ((rd_T49 l0_0 x21_2).f2))) (fun _ hk => trivial))); (case aS => exact (below_size (by repeat (first | (with_reducible first | exact HB.out | apply below_alloc | apply pw_below_drewN | apply below_drew1 | refine below_set ?_ GE411.out | refine below_set ?_ GE415.out) | exact HB.out)))); (case aL => have := LMc19.out; omega); intro v417 w23 ho hb hg hat; rw [← Ny416.out] at ho; have n0_ := Aside0.mk (blk_grown (g := gb411) (o := .cells #[.slice (some ad414) l0_0.length c0_0, .bool a0_1, .int .i64 a0_2] 44 (0, 0)) (by (with_reducible repeat (first | refine blk_drewN ?_ _ | refine blk_drew ?_ | refine blk_alloc ?_ _)); refine blk_far ?_ NB411_415.out _; (with_reducible repeat (first | refine blk_drewN ?_ _ | refine blk_drew ?_ | refine blk_alloc ?_ _)); refine blk_far ?_ NB411_415.out _; (with_reducible repeat (first | refine blk_drewN ?_ _ | refine blk_drew ?_ | refine blk_alloc ?_ _)); refine blk_far ?_ NB411_415.out _; (with_reducible repeat (first | refine blk_drewN ?_ _ | refine blk_drew ?_ | refine blk_alloc ?_ _)); exact BK411.out) hg (Kd.R_ne HO_2.out BK411.out (by decide))); have n1_ := Aside0.mk (blk_grown (g := gb415) (o := .cells #[.int .i64 ((rd_T49 l0_0 x21_2).f0), .int .i64 ((rd_T49 l0_0 x21_2).f1), .bool ((rd_T49 l0_0 x21_2).f2)] 49 (0, 0)) (by (with_reducible repeat (first | refine blk_drewN ?_ _ | refine blk_drew ?_ | refine blk_alloc ?_ _)); refine blk_put (cs := #[.int .i64 ((rd_T49 l0_0 x21_2).f0), .int .i64 ((rd_T49 l0_0 x21_2).f1), .bool false]) ?_ 2 _ rfl; (with_reducible repeat (first | refine blk_drewN ?_ _ | refine blk_drew ?_ | refine blk_alloc ?_ _)); refine blk_put (cs := #[.int .i64 ((rd_T49 l0_0 x21_2).f0), .int .i64 0, .bool false]) ?_ 1 _ rfl; (with_reducible repeat (first | refine blk_drewN ?_ _ | refine blk_drew ?_ | refine blk_alloc ?_ _)); refine blk_put (cs := #[.int .i64 0, .int .i64 0, .bool false]) ?_ 0 _ rfl; (with_reducible repeat (first | refine blk_drewN ?_ _ | refine blk_drew ?_ | refine blk_alloc ?_ _)); exact BK415.out) hg (Kd.R_ne HO_2.out BK415.out (by decide))); have n2_ := Aside0.mk (hb); have n3_ := Aside0.mk (ho); clear BK411; clear BK415; clear HB; clear HO_2; have BK411 := n0_; have BK415 := n1_; have HB := n2_; have HO418 := n3_; clear n0_ n1_ n2_ n3_; clear ho hb hg hat))
                    go_roundg k2
                    case measure => have := HJ1.out; have := HK2.out; omega
                    case rel => exact ⟨(y416), (wrap64 (x5_2 + ((rd_T49 l0_0 x21_2).f1))), (wrap64 (x21_2 + 1)), (by first | rfl | (simp; done) | (simp [*]; done)), (by first | rfl | (simp; done) | (simp [*]; done)), H', ⟨by have := HJ1.out; have := HK2.out; omega⟩, ⟨by (with_reducible repeat (first | apply Kd.R_alloc | apply Kd.R_drewN | apply Kd.R_drew)); exact HO418.out⟩, ⟨by (with_reducible repeat (first | refine blk_drewN ?_ _ | refine blk_drew ?_ | refine blk_alloc ?_ _)); exact BK411.out⟩, ⟨by repeat (first | (with_reducible first | exact HB.out | apply below_alloc | apply pw_below_drewN | apply below_drew1 | refine below_set ?_ GE411.out | refine below_set ?_ GE415.out) | exact HB.out)⟩⟩
                  · rw [if_neg c19] at H
                    exact absurd H (by simp)
                · rw [if_neg c17] at H
                  exact absurd H (by simp)
              · rw [if_neg c16] at H
                exact absurd H (by simp)
            · rw [if_neg c15] at H
              have c15b0 : decide (x21_2 < (l0_0.length : Int)) = false := decide_eq_false c15
              clear c15
              by_cases c24 : a0_1 = true
              · subst c24
                have H1 : (if x2_2.length < 8796093022208 then (some ((x2_2 ++ [(⟨wrap64 (a0_2 + x5_2), x5_2⟩ : S53)]), true)) else (none)) = some (r1, r2) := by rw [if_pos rfl] at H; exact H
                clear H
                have H := H1
                clear H1
                by_cases c25 : x2_2.length < 8796093022208
                · rw [if_pos c25] at H
                  have LMc25 := Aside0.mk c25
                  clear c25
                  obtain ⟨y419, hy419⟩ : ∃ y_ : List (S53), y_ = (x2_2 ++ [(⟨wrap64 (a0_2 + x5_2), x5_2⟩ : S53)]) := ⟨_, rfl⟩
                  replace H : (some (y419, true)) = some (r1, r2) := by first | (rw [hy419]; with_reducible exact H) | (have H2_ := (Option.bind_some _ _).symm.trans H; rw [hy419]; with_reducible exact H2_) | (have H2_ := (Option.bind_some _ _).symm.trans H; with_reducible exact H2_) | with_reducible exact H | (rw [hy419]; exact H) | exact H
                  have Ny419 := Aside0.mk hy419
                  clear hy419
                  simp only [Option.some.injEq, Prod.mk.injEq] at H
                  obtain ⟨rfl, rfl⟩ := H
                  have hcz26_0 : wr.cell? ⟨gb411, 0, none⟩ = some (.slice A0_0 l0_0.length c0_0) := (blk_cell BK411.out 0).trans rfl
                  have hcz26_1 : wr.cell? ⟨gb411, 1, none⟩ = some (.bool true) := (blk_cell BK411.out 1).trans rfl
                  have hcz26_2 : wr.cell? ⟨gb411, 2, none⟩ = some (.int .i64 a0_2) := (blk_cell BK411.out 2).trans rfl
                  have hfz26_0 := blk_frozen BK411.out 0
                  have hfz26_1 := blk_frozen BK411.out 1
                  have hfz26_2 := blk_frozen BK411.out 2
                  go_wp2_with (first | ((with_reducible refine gate_builtin (b := .append) (xs := #[.tmp 48, .tmp 55]) rfl ?_); at_builtin; refine Kd.R_append k53 (w0 := w) w.heap.size rfl (.tmp 48) (.tmp 55) 22 53 (.agg #[(.int .i64 0), (.int .i64 0)]) 16 rfl Try.underlying22 info53 rfl (by decide) (by omega) u2 x2_2 (⟨wrap64 (a0_2 + x5_2), x5_2⟩ : S53) [.int .i64 (wrap64 (a0_2 + x5_2)), .int .i64 x5_2] (fun _ => True) (fun _ => False) rfl rfl ?aP (fun _ hk => hk.elim) ?aF ?aO ?aB ?aS ?aL ?_; (case aP => exact k53_mkM _ _ _ (⟨wrap64 (a0_2 + x5_2), x5_2⟩ : S53)); (case aB => exact (by repeat (first | (with_reducible first | exact HB.out | apply below_alloc | apply pw_below_drewN | apply below_drew1 | refine below_set ?_ GE411.out) | exact HB.out))); (case aF => exact (fun _ _ => trivial)); (case aO => exact (by (with_reducible repeat (first | apply Kd.R_alloc | apply Kd.R_drewN | apply Kd.R_drew)); exact HO_2.out)); (case aS => exact (below_size (by repeat (first | (with_reducible first | exact HB.out | apply below_alloc | apply pw_below_drewN | apply below_drew1 | refine below_set ?_ GE411.out) | exact HB.out)))); (case aL => have := LMc25.out; omega); intro v420 w27 ho hb hg hat; rw [← Ny419.out] at ho; have n0_ := Aside0.mk (blk_grown (g := gb411) (o := .cells #[.slice A0_0 l0_0.length c0_0, .bool true, .int .i64 a0_2] 44 (0, 0)) (by (with_reducible repeat (first | refine blk_drewN ?_ _ | refine blk_drew ?_ | refine blk_alloc ?_ _)); exact BK411.out) hg (Kd.R_ne HO_2.out BK411.out (by decide))); have n1_ := Aside0.mk (hb); have n2_ := Aside0.mk (ho); clear BK411; clear HB; clear HO_2; have BK411 := n0_; have HB := n1_; have HO421 := n2_; clear n0_ n1_ n2_; clear ho hb hg hat))
                  go_ret2
                  exact ⟨_, by first | rfl | (simp [errW_none, errW_some] <;> rfl) | (simp [*, errW_none, errW_some] <;> rfl), by (with_reducible repeat (first | apply Kd.R_alloc | apply Kd.R_drewN | apply Kd.R_drew)); exact HO421.out, by repeat (first | (with_reducible first | exact HB.out | apply below_alloc | apply pw_below_drewN | apply below_drew1 | refine below_set ?_ GE411.out) | exact HB.out)⟩
                · rw [if_neg c25] at H
                  exact absurd H (by simp)
              · replace c24 := Bool.eq_false_iff.mpr c24
                subst c24
                have H1 : (some (x2_2, true)) = some (r1, r2) := by rw [if_neg (show ¬ (false = true) by decide)] at H; exact H
                clear H
                have H := H1
                clear H1
                simp only [Option.some.injEq, Prod.mk.injEq] at H
                obtain ⟨rfl, rfl⟩ := H
                have hcz28_0 : wr.cell? ⟨gb411, 0, none⟩ = some (.slice A0_0 l0_0.length c0_0) := (blk_cell BK411.out 0).trans rfl
                have hcz28_1 : wr.cell? ⟨gb411, 1, none⟩ = some (.bool false) := (blk_cell BK411.out 1).trans rfl
                have hcz28_2 : wr.cell? ⟨gb411, 2, none⟩ = some (.int .i64 a0_2) := (blk_cell BK411.out 2).trans rfl
                have hfz28_0 := blk_frozen BK411.out 0
                have hfz28_1 := blk_frozen BK411.out 1
                have hfz28_2 := blk_frozen BK411.out 2
                go_wp2
                go_ret2
                exact ⟨_, by first | rfl | (simp [errW_none, errW_some] <;> rfl) | (simp [*, errW_none, errW_some] <;> rfl), by (with_reducible repeat (first | apply Kd.R_alloc | apply Kd.R_drewN | apply Kd.R_drew)); exact HO_2.out, by repeat (first | (with_reducible first | exact HB.out | apply below_alloc | apply pw_below_drewN | apply below_drew1 | refine below_set ?_ GE411.out) | exact HB.out)⟩

/-! ### leap_Find: function 64 -/
-- by hand: wip/hand
/-- is a table's row of days in order? -/
def leap_Find.Asc (l : List S49) : Prop := l.Pairwise (fun x y => x.f0 ≤ y.f0)
instance leap_Find.instAsc (l : List S49) : Decidable (leap_Find.Asc l) := by unfold leap_Find.Asc; exact inferInstance
def leap_Find.f (l0_0 : List (S49)) (a0_1 : Bool) (a0_2 : Int) (a1 : Int) : Option (Int) :=
  if l0_0.length < 4611686018427387904 ∧ leap_Find.Asc l0_0 then some ((l0_0.countP (fun y => !decide (a1 ≤ y.f0)) : Nat) : Int) else none
set_option maxHeartbeats 2000000 in
theorem leap_Find.clo (gt gd n c : Nat) (ad : Addr) (a1 x : Int) (i : Nat) (W : World) (hi : i < n)
    (h0 : W.cell? ⟨gt, 0, none⟩ = some (.slice (some ad) n c)) (hd : W.cell? ⟨gd, 0, none⟩ = some (.int .i64 a1)) (hc : W.cell? (ad.add (i * 3)) = some (.int .i64 x)) :
    Calls Try.prog 90 (#[.int .i64 i] ++ #[.pointer (some ⟨gt, 0, none⟩), .pointer (some ⟨gd, 0, none⟩)]) W fun e w' => e = .returned (.bool (decide (a1 ≤ x))) ∧ ∃ q, w' = W.drewN q := by
  have hiz : (i : Int) < (n : Int) := by omega
  have hu := Try.underlying44
  have hu2 := Try.underlying49
  go_enter Try.func90, Try.ntmps90
  go_wp2
  go_region
  all_goals go_wp2
  all_goals go_ret
  all_goals exact ⟨by first | rfl | simp, 1, rfl⟩
theorem leap_Find.asc_at {l : List S49} (h : leap_Find.Asc l) (a b : Nat) (hab : a ≤ b) (hb : b < l.length) : (l.getD a z49).f0 ≤ (l.getD b z49).f0 := by
  have ha : a < l.length := by omega
  simp only [List.getD_eq_getElem?_getD, List.getElem?_eq_getElem ha, List.getElem?_eq_getElem hb, Option.getD_some]
  by_cases e : a = b
  · subst e; exact Int.le_refl _
  · exact List.pairwise_iff_getElem.mp h a b ha hb (by omega)
theorem leap_Find.count (l : List S49) (p : S49 → Bool) : (List.range l.length).countP (fun i => p (l.getD i z49)) = l.countP p := by
  have : l = (List.range l.length).map (fun i => l.getD i z49) := by
    apply List.ext_getElem
    · simp
    · intro i h1 h2; simp [h1]
  conv => rhs; rw [this, List.countP_map]
  rfl
open Go.Shelf Go.Sort in
set_option maxHeartbeats 4000000 in
theorem leap_Find.calls (A0_0 : Option Addr) (c0_0 : Nat) (l0_0 : List (S49)) (a0_1 : Bool) (a0_2 : Int) (a1 : Int) (r : Int) (w : World) (hr0_0 : Kd.C k49 w A0_0 l0_0.length l0_0) (hc0_0 : l0_0.length ≤ c0_0) (h : leap_Find.f l0_0 a0_1 a0_2 a1 = some r) :
    Calls Try.prog 64 #[.agg #[.slice A0_0 l0_0.length c0_0, .bool a0_1, .int .i64 a0_2], .int .i64 a1] w fun e w' => e = .returned (.int .i64 r) ∧ Below w.heap.size w w' := by
  unfold leap_Find.f at h
  by_cases hs : l0_0.length < 4611686018427387904 ∧ leap_Find.Asc l0_0
  · rw [if_pos hs] at h
    obtain ⟨hsz, hasc⟩ := hs
    obtain ⟨W0, hW0⟩ : ∃ W0, W0 = (w.alloc (.cells #[.slice A0_0 l0_0.length c0_0, .bool a0_1, .int .i64 a0_2] 44)).alloc (.cells #[.int .i64 a1] 3) := ⟨_, rfl⟩
    have hsize : W0.heap.size = w.heap.size + 1 + 1 := by rw [hW0]; simp
    have ca : W0.cell? ⟨w.heap.size, 0, none⟩ = some (.slice A0_0 l0_0.length c0_0) := by
      rw [hW0]; exact cell_alloc_sl _ ((blk_cell (by simpa using heap_alloc_new w _) 0).trans rfl)
    have cx : W0.cell? ⟨w.heap.size + 1, 0, none⟩ = some (.int .i64 a1) := by
      rw [hW0]
      have := cell_new_sl (w.alloc (.cells #[.slice A0_0 l0_0.length c0_0, .bool a0_1, .int .i64 a0_2] 44)) (.int .i64 a1) 3
      rwa [World.size_alloc] at this
    have eg : ∀ args w, (callFunc 90 args).run Try.prog w = .ok (.enter 90 args) w := enters_of Try.func90 (by kernel_rfl) rfl
    have hS := Any.sort_Search Try.laysSearch 90 #[.pointer (some ⟨w.heap.size, 0, none⟩), .pointer (some ⟨w.heap.size + 1, 0, none⟩)] l0_0.length (fun i => decide (a1 ≤ (l0_0.getD i z49).f0)) W0 eg hsz
      (fun m os i hi => by
        obtain ⟨ad, rfl, hx, _, _⟩ := at_T49 hr0_0 (i : Int) (by omega) (by omega)
        have hx' : w.cell? (ad.add (i * 3)) = some (.int .i64 (l0_0.getD i z49).f0) := by simpa [rd_T49] using hx
        have hlt := World.block_lt_of_cell? w _ hx'
        have hx2 : W0.cell? (ad.add (i * 3)) = some (.int .i64 (l0_0.getD i z49).f0) := by
          rw [hW0, World.cell?_alloc_lt _ _ _ (by simp; omega), World.cell?_alloc_lt _ _ _ hlt]; exact hx'
        refine (leap_Find.clo w.heap.size (w.heap.size + 1) l0_0.length c0_0 ad a1 _ i _ hi (cell_grown (by simp [hsize]; omega) ca m os) (cell_grown (by simp [hsize]) cx m os) (cell_grown (by rw [hsize]; omega) hx2 m os)).mono ?_
        rintro _ _ ⟨he, q, hq⟩
        exact ⟨he, q, #[], by rw [hq, grow_empty]⟩)
      (fun a b hab hb hp => by have := leap_Find.asc_at hasc a b hab hb; simp only [decide_eq_true_eq] at hp ⊢; omega)
    rw [leap_Find.count l0_0 (fun y => !decide (a1 ≤ y.f0))] at hS
    change Calls Try.prog 85 _ _ _ at hS
    obtain rfl := Option.some.inj h
    clear h ca cx hasc
    have hsz' := Aside0.mk hsz
    clear hsz
    generalize l0_0.countP (fun y => !decide (a1 ≤ y.f0)) = r at hS ⊢
    have hu := Try.underlying44
    have HS := Aside0.mk hS
    clear hS
    have HW := Aside0.mk hW0
    clear hW0
    have HZ := Aside0.mk hsize
    clear hsize
    go_enter Try.func64, Try.ntmps64
    go_wp2_with (go_at_call 85; rw [← HW.out]; refine HS.out.mono ?_; rintro e w' ⟨rfl, q, os, rfl⟩)
    go_ret
    refine ⟨rfl, ?_⟩
    have hB0 : Below w.heap.size w W0 := by rw [HW.out]; exact ((Below.refl _ w).alloc (Nat.le_refl _) _).alloc (by simp) _
    exact hB0.trans (below_grown_sl w.heap.size W0 q os (by have := HZ.out; omega))
  · rw [if_neg hs] at h; exact absurd h (by simp)

/-! ### leap_Total: function 27 -/
def leap_Total.l0 : Nat → Int → List (S49) → Int → Int → Option (Int)
  | 0, _, _, _, _ => none
  | k + 1, x4, x12, x13, x14 => if x14 < x13 then (if 0 ≤ x14 then (if x14 < (x12.length : Int) then (leap_Total.l0 k (wrap64 (x4 + ((rd_T49 x12 x14).f1))) x12 x13 (wrap64 (x14 + 1))) else (none)) else (none)) else (some x4)
def leap_Total.f (k : Nat) (l0_0 : List (S49)) (a0_1 : Bool) (a0_2 : Int) (a1 : Int) : Option (Int) := (leap_Find.f l0_0 a0_1 a0_2 a1).bind fun t423 => (if 0 ≤ t423 then (if t423 ≤ (l0_0.length : Int) then ((some (l0_0.take (t423 : Int).toNat : List (S49))).bind fun y424 => (leap_Total.l0 k 0 y424 (y424.length : Int) 0)) else (none)) else (none))
theorem leap_Total.mono_l : ∀ k, (∀ y0 y1 y2 y3, LeO (leap_Total.l0 k y0 y1 y2 y3) (leap_Total.l0 (k + 1) y0 y1 y2 y3))
  | 0 => fun _ _ _ _ r h => by simp [leap_Total.l0] at h
  | k + 1 => by
    have ih0 := leap_Total.mono_l k
    · intro y0 y1 y2 y3
      unfold leap_Total.l0
      repeat' first
      | (with_reducible exact ih0 _ _ _ _)
      | (with_reducible exact LeO.refl _)
      | (with_reducible exact LeO.none _)
      | (with_reducible refine LeO.ite ?_ ?_)
      | (with_reducible refine LeO.bind ?_ (fun _ => ?_))
      | exact ih0 _ _ _ _
      | exact LeO.none _
      | refine LeO.ite ?_ ?_
      | refine LeO.bind ?_ (fun _ => ?_)
theorem leap_Total.mono : ∀ a0 a1 a2 a3 k, LeO (leap_Total.f k a0 a1 a2 a3) (leap_Total.f (k + 1) a0 a1 a2 a3) := by
  intro a0 a1 a2 a3 k
  have ih0 := leap_Total.mono_l k
  unfold leap_Total.f
  repeat' first
      | (with_reducible exact ih0 _ _ _ _)
      | (with_reducible exact LeO.refl _)
      | (with_reducible exact LeO.none _)
      | (with_reducible refine LeO.ite ?_ ?_)
      | (with_reducible refine LeO.bind ?_ (fun _ => ?_))
      | exact ih0 _ _ _ _
      | exact LeO.none _
      | refine LeO.ite ?_ ?_
      | refine LeO.bind ?_ (fun _ => ?_)
def leap_Total.T1 : Bool × List (List Nat × List Nat) := (true, [([], []), ([0], [0]), ([], []), ([], []), ([2, 3], [2, 3]), ([1, 4], [1, 4]), ([5], [5]), ([], [])])
def leap_Total.B1 : List Nat := [0, 1, 0, 0, 12, 31, 63, 0]
theorem leap_Total.tab1 : rtab .any (opsOf Try.f27 1) = leap_Total.T1 := by kernel_rfl
theorem leap_Total.bits1 : waitsOk leap_Total.T1.2 leap_Total.B1 = true := by kernel_rfl
set_option maxHeartbeats 8000000 in
set_option maxRecDepth 100000 in
theorem leap_Total.calls (k : Nat) (A0_0 : Option Addr) (c0_0 : Nat) (l0_0 : List (S49)) (a0_1 : Bool) (a0_2 : Int) (a1 : Int) (r : Int) (w : World) (hr0_0 : Kd.C k49 w A0_0 l0_0.length l0_0) (hc0_0 : l0_0.length ≤ c0_0) (h : leap_Total.f k l0_0 a0_1 a0_2 a1 = some r) :
    Calls Try.prog 27 #[.agg #[.slice A0_0 l0_0.length c0_0, .bool a0_1, .int .i64 a0_2], .int .i64 a1] w fun e w' => e = .returned (.int .i64 r) ∧ Below w.heap.size w w' := by
  have hu44 := Try.underlying44
  have hu49 := Try.underlying49
  have HR0_0 := Aside0.mk hr0_0
  have HC0_0 := Aside0.mk hc0_0
  clear hr0_0 hc0_0
  have HB := Aside0.mk (Below.refl w.heap.size w)
  have H : ((leap_Find.f l0_0 a0_1 a0_2 a1).bind fun t423 => (if 0 ≤ t423 then (if t423 ≤ (l0_0.length : Int) then ((some (l0_0.take (t423 : Int).toNat : List (S49))).bind fun y424 => (leap_Total.l0 k 0 y424 (y424.length : Int) 0)) else (none)) else (none))) = some r := h
  clear h
  replace H := Option.bind_eq_some_iff.mp H
  obtain ⟨t423, A30, H⟩ := H
  replace H : (if 0 ≤ t423 then (if t423 ≤ (l0_0.length : Int) then ((some (l0_0.take (t423 : Int).toNat : List (S49))).bind fun y424 => (leap_Total.l0 k 0 y424 (y424.length : Int) 0)) else (none)) else (none)) = some r := H
  have A3 := Aside0.mk A30
  clear A30
  by_cases c4 : 0 ≤ t423
  · rw [if_pos c4] at H
    have c4b0 := eq_true c4
    have c4b1 : decide (0 ≤ t423) = true := decide_eq_true c4
    clear c4
    by_cases c5 : t423 ≤ (l0_0.length : Int)
    · rw [if_pos c5] at H
      have c5b0 := eq_true c5
      have c5b1 : decide (t423 ≤ (l0_0.length : Int)) = true := decide_eq_true c5
      clear c5
      obtain ⟨y424, hy424⟩ : ∃ y_ : List (S49), y_ = (l0_0.take (t423 : Int).toNat) := ⟨_, rfl⟩
      replace H : (leap_Total.l0 k 0 y424 (y424.length : Int) 0) = some r := by first | (rw [hy424]; with_reducible exact H) | (have H2_ := (Option.bind_some _ _).symm.trans H; rw [hy424]; with_reducible exact H2_) | (have H2_ := (Option.bind_some _ _).symm.trans H; with_reducible exact H2_) | with_reducible exact H | (rw [hy424]; exact H) | exact H
      have Ny424 := Aside0.mk hy424
      clear hy424
      have H' := Aside0.mk H
      clear H
      go_enter Try.func27, Try.ntmps27
      try go_wp2_with (first | ((with_reducible refine gate_dst (N := 2) rfl ?_); refine box_event ?hg (N := 2) ?hd (cs := #[.slice A0_0 l0_0.length c0_0, .bool a0_1, .int .i64 a0_2]) (t := 44) ?hr ?_; (case hd => rfl); (case hg => rfl); (case hr => first | (go_simp; done) | (go_simp; rfl)); intro gb422 hg w6 hbox hb; have n0_ := Aside0.mk (below_step (by repeat (first | (with_reducible first | exact HB.out | apply below_alloc | apply pw_below_drewN | apply below_drew1) | exact HB.out)) hb); have n1_ := Aside0.mk (hbox); have n2_ := Aside0.mk ((by rw [hg]; exact (below_size (by repeat (first | (with_reducible first | exact HB.out | apply below_alloc | apply pw_below_drewN | apply below_drew1) | exact HB.out))) : w.heap.size ≤ gb422)); have n3_ := Aside0.mk ((by rw [hg]; exact (below_size (by repeat (first | (with_reducible first | exact HB.out | apply below_alloc | apply pw_below_drewN | apply below_drew1) | exact HB.out))) : w.heap.size ≤ gb422)); clear HB; have HB := n0_; have BK422 := n1_; have GW422 := n2_; have GE422 := n3_; clear n0_ n1_ n2_ n3_; clear hb hbox hg))
      have n0_ := Aside0.mk (blk_drew BK422.out)
      have n1_ := Aside0.mk (below_drew1 HB.out)
      clear BK422
      clear HB
      have BK422 := n0_
      have HB := n1_
      clear n0_ n1_
      refine start_ (n := 8) (S := fun w' => w'.cell? ⟨gb422, 0, none⟩ = some (.slice A0_0 l0_0.length c0_0) ∧ w'.cell? ⟨gb422, 1, none⟩ = some (.bool a0_1) ∧ w'.cell? ⟨gb422, 2, none⟩ = some (.int .i64 a0_2)) (ds := []) #[false, false, false, false, false, false, false, false] (by kernel_rfl) rfl rfl ⟨(blk_cell BK422.out 0).trans rfl, (blk_cell BK422.out 1).trans rfl, (blk_cell BK422.out 2).trans rfl⟩ (fun hHeld => ?_); refine with_tabW leap_Total.tab1 leap_Total.bits1 (fun HT_ HW_ => ?_)
      generalize w6.drew = w7 at BK422 HB hHeld ⊢
      refine pure_ (i := 0) (N := some 7) (v := ?_) (a' := ?_) #[true, false, false, false, false, false, false, false] rfl rfl (any_of HT_.out (by kernel_rfl)) (fun _ _ _ h => h) (Or.inl ⟨by rfl, ?_⟩) ?_ ?_
      rotate_left
      · intro w'
        go_simp
        with_reducible rfl
      rotate_left
      · simp only [Act.put, List.setIfInBounds_toArray, List.set_cons_zero, List.set_cons_succ, i64_w, i32_w]
        rfl
      refine pure_ (i := 3) (N := some 10) (v := ?_) (a' := ?_) #[true, false, false, true, false, false, false, false] rfl rfl (any_of HT_.out (by kernel_rfl)) (fun _ _ _ h => h) (Or.inl ⟨by rfl, ?_⟩) ?_ ?_
      rotate_left
      · intro w'
        go_simp
        with_reducible rfl
      rotate_left
      · simp only [Act.put, List.setIfInBounds_toArray, List.set_cons_zero, List.set_cons_succ, i64_w, i32_w]
        rfl
      refine pure_ (i := 7) (N := some 14) (v := ?_) (a' := ?_) #[true, false, false, true, false, false, false, true] rfl rfl (any_of HT_.out (by kernel_rfl)) (fun _ _ _ h => h) (Or.inl ⟨by rfl, ?_⟩) ?_ ?_
      rotate_left
      · intro w'
        go_simp
        with_reducible rfl
      rotate_left
      · simp only [Act.put, List.setIfInBounds_toArray, List.set_cons_zero, List.set_cons_succ, i64_w, i32_w]
        rfl
      refine take_ (i := 1) (N := some 8) (v := ?_) (a' := ?_) #[true, true, false, true, false, false, false, true] rfl rfl (take_ofW HT_.out HW_.out (by kernel_rfl)) (fun _ _ _ h => h) (Or.inl ⟨by rfl, ?_⟩) hHeld ?_ ?_
      rotate_left
      · rintro w' ⟨s0, s1, s2⟩
        go_simp
        with_reducible rfl
      rotate_left
      · simp only [Act.put, List.setIfInBounds_toArray, List.set_cons_zero, List.set_cons_succ, i64_w, i32_w]
        rfl
      refine take_ (i := 2) (N := some 9) (v := ?_) (a' := ?_) #[true, true, true, true, false, false, false, true] rfl rfl (take_ofW HT_.out HW_.out (by kernel_rfl)) (fun _ _ _ h => h) (Or.inl ⟨by rfl, ?_⟩) hHeld ?_ ?_
      rotate_left
      · rintro w' ⟨s0, s1, s2⟩
        go_simp
        with_reducible rfl
      rotate_left
      · simp only [Act.put, List.setIfInBounds_toArray, List.set_cons_zero, List.set_cons_succ, i64_w, i32_w]
        rfl
      refine one_ (i := 4) (N := some 11) #[true, true, true, true, true, false, false, true] rfl rfl (one_of HT_.out (by kernel_rfl)) (by decide) (fun K hK => ?_)
      refine goes_ Try.func64 (by kernel_rfl) rfl #[.agg #[.slice A0_0 l0_0.length c0_0, .bool a0_1, .int .i64 a0_2], .int .i64 a1] (by rfl) rfl rfl (by (try simp only [List.map_toArray, List.map_cons, List.map_nil]); first | done | rfl | (simp only [List.length_drop, List.length_take]; rfl)) ?_
      with_reducible refine (leap_Find.calls _ _ l0_0 a0_1 a0_2 a1 t423 _ ?side1 ?side2 A3.out).mono ?_
      (case side1 => repeat (first | exact (Kd.C_below HR0_0.out HB.out) | (with_reducible refine Kd.C_alloc ?_ _) | (with_reducible refine Kd.C_drewN ?_ _) | (with_reducible refine Kd.C_drew ?_)))
      (case side2 => exact HC0_0.out)
      rintro e w8 ⟨rfl, hb⟩
      refine ⟨_, rfl, ?_⟩
      have n0_ := Aside0.mk (blk_below (g := gb422) (o := .cells #[.slice A0_0 l0_0.length c0_0, .bool a0_1, .int .i64 a0_2] 44 (0, 0)) (by (with_reducible repeat (first | refine blk_drewN ?_ _ | refine blk_drew ?_ | refine blk_alloc ?_ _)); exact BK422.out) hb)
      have n1_ := Aside0.mk (below_step (by repeat (first | (with_reducible first | exact HB.out | apply below_alloc | apply pw_below_drewN | apply below_drew1 | refine below_set ?_ GE422.out) | exact HB.out)) hb)
      clear BK422
      clear HB
      have BK422 := n0_
      have HB := n1_
      clear n0_ n1_
      (try clear hb)
      (try clear hb2)
      (try clear hk)
      (try clear hi)
      have q9 : (t423 : Int) ≤ ((l0_0.length : Int) : Int) := of_decide_eq_true (by first | (with_reducible assumption) | assumption)
      obtain ⟨i09, hi09, _, hsz9, _⟩ := info_parts info49
      have hroom9 : l0_0.length ≤ c0_0 := HC0_0.out
      have hC9 : Kd.C k49 _ A0_0 l0_0.length l0_0 := HR0_0.out
      have hcut9 := cut_to (P := Try.prog) 42 49 .i64 Try.underlying42 hi09 A0_0 l0_0.length c0_0 t423 (of_decide_eq_true (by first | (with_reducible assumption) | assumption)) q9 hroom9
      have hr9 := Kd.C_take (m := (t423 : Int).toNat) hC9 (by omega)
      have hy9 : y424.length = (t423 : Int).toNat := (by rw [Ny424.out, List.length_take]; omega)
      rw [← Ny424.out] at hr9
      rw [← hy9] at hcut9
      have HR427 := Aside0.mk hr9
      have HC427 := Aside0.mk (show y424.length ≤ c0_0 from by omega)
      clear hr9 hC9 hroom9 hi09 hsz9
      have KY9 := Aside0.mk hy9
      clear hy9
      replace q9 := eq_true q9
      refine hK.out _ _ ⟨(blk_cell BK422.out 0).trans rfl, (blk_cell BK422.out 1).trans rfl, (blk_cell BK422.out 2).trans rfl⟩ (fun hHeld => ?_)
      clear hK K
      refine norm_ (a' := ?_) ?_ ?_
      rotate_left
      · show Act.put _ (some 11) _ = _
        simp only [Act.put, List.setIfInBounds_toArray, List.set_cons_zero, List.set_cons_succ, i64_w, i32_w]
        rfl
      refine pure_ (i := 5) (N := some 12) (v := ?_) (a' := ?_) #[true, true, true, true, true, true, false, true] rfl rfl (any_of HT_.out (by kernel_rfl)) (fun _ _ _ h => h) (Or.inl ⟨by rfl, ?_⟩) ?_ ?_
      rotate_left
      · intro w'
        go_simp
        with_reducible rfl
      rotate_left
      · simp only [Act.put, List.setIfInBounds_toArray, List.set_cons_zero, List.set_cons_succ, i64_w, i32_w]
        rfl
      refine pure_ (i := 6) (N := some 13) (v := ?_) (a' := ?_) #[true, true, true, true, true, true, true, true] rfl rfl (any_of HT_.out (by kernel_rfl)) (fun _ _ _ h => h) (Or.inl ⟨by rfl, ?_⟩) ?_ ?_
      rotate_left
      · intro w'
        go_simp
        with_reducible rfl
      rotate_left
      · simp only [Act.put, List.setIfInBounds_toArray, List.set_cons_zero, List.set_cons_succ, i64_w, i32_w]
        rfl
      refine done_ (done_of HT_.out (by kernel_rfl)) ?_
      try go_wp2
      go_loopg [4, 14] k (fun kq v4 v14 w' => ∃ (x4_1 : Int) (x14_1 : Int), v4 = .int .i64 x4_1 ∧ v14 = .int .i64 x14_1 ∧ Aside0 (leap_Total.l0 kq x4_1 y424 (y424.length : Int) x14_1 = some r) ∧ Aside0 (kq ≤ k) ∧ Aside0 (w'.heap[gb422]? = some (.cells #[(.slice A0_0 l0_0.length c0_0), .bool a0_1, .int .i64 a0_2] 44 (0, 0))) ∧ Aside0 (Below w.heap.size w w'))
      case atStart => exact ⟨(0), (0), (by first | rfl | (simp; done) | (simp [*]; done)), (by first | rfl | (simp; done) | (simp [*]; done)), H', ⟨Nat.le_refl _⟩, ⟨by (with_reducible repeat (first | refine blk_drewN ?_ _ | refine blk_drew ?_ | refine blk_alloc ?_ _)); exact BK422.out⟩, ⟨by repeat (first | (with_reducible first | exact HB.out | apply below_alloc | apply pw_below_drewN | apply below_drew1 | refine below_set ?_ GE422.out) | exact HB.out)⟩⟩
      case round =>
        clear H'
        try clear c2
        try clear p2
        try clear c4
        try clear c4b0
        try clear c4b1
        try clear c5
        try clear c5b0
        try clear c5b1
        try clear c6
        try clear q9
        try clear q9
        obtain ⟨x4_1, x14_1, rfl, rfl, HA, HK1, BK422, HB⟩ := hrel
        cases gk with
        | zero => exact absurd HA.out (by simp [leap_Total.l0])
        | succ k1 =>
          have H := HA.out
          clear HA
          simp only [leap_Total.l0] at H
          by_cases c10 : x14_1 < (y424.length : Int)
          · rw [if_pos c10] at H
            have c10b0 : decide (x14_1 < (y424.length : Int)) = true := decide_eq_true c10
            clear c10
            by_cases c11 : 0 ≤ x14_1
            · rw [if_pos c11] at H
              have c11b0 : decide (0 ≤ x14_1) = true := decide_eq_true c11
              clear c11
              by_cases c12 : x14_1 < (y424.length : Int)
              · rw [if_pos c12] at H
                have c12b0 : decide (x14_1 < (y424.length : Int)) = true := decide_eq_true c12
                clear c12
                have H' := Aside0.mk H
                clear H
                have p428 : 0 ≤ (x14_1 : Int) := of_decide_eq_true (by first | (with_reducible assumption) | assumption)
                have q428 : x14_1 < (y424.length : Int) := of_decide_eq_true (by first | (with_reducible assumption) | assumption)
                obtain ⟨ad428, e428, hx428_0, hx428_1, hx428_2⟩ := at_T49 HR427.out x14_1 p428 q428
                cases e428
                replace hx428_0 := (HB.out.cell (World.block_lt_of_cell? w _ hx428_0)).trans hx428_0
                replace hx428_1 := (HB.out.cell (World.block_lt_of_cell? w _ hx428_1)).trans hx428_1
                replace hx428_2 := (HB.out.cell (World.block_lt_of_cell? w _ hx428_2)).trans hx428_2
                replace p428 := eq_true p428
                replace q428 := eq_true q428
                go_wp2_with (first | ((with_reducible refine gate_dst (N := 6) rfl ?_); refine box_event ?hg (N := 6) ?hd (cs := #[.int .i64 0, .int .i64 0, .bool false]) (t := 49) ?hr ?_; (case hd => rfl); (case hg => rfl); (case hr => first | (go_simp; done) | (go_simp; rfl)); intro gb429 hg w13 hbox hb; have n0_ := Aside0.mk (blk_below (g := gb422) (o := .cells #[.slice (some ad428) l0_0.length c0_0, .bool a0_1, .int .i64 a0_2] 44 (0, 0)) (by (with_reducible repeat (first | refine blk_drewN ?_ _ | refine blk_drew ?_ | refine blk_alloc ?_ _)); exact BK422.out) hb); have n1_ := Aside0.mk (below_step (by repeat (first | (with_reducible first | exact HB.out | apply below_alloc | apply pw_below_drewN | apply below_drew1 | refine below_set ?_ GE422.out) | exact HB.out)) hb); have n2_ := Aside0.mk (hbox); have n3_ := Aside0.mk ((by rw [hg]; exact (below_size (by repeat (first | (with_reducible first | exact HB.out | apply below_alloc | apply pw_below_drewN | apply below_drew1 | refine below_set ?_ GE422.out) | exact HB.out))) : w.heap.size ≤ gb429)); have n4_ := Aside0.mk ((by rw [hg]; exact (below_size (by repeat (first | (with_reducible first | exact HB.out | apply below_alloc | apply pw_below_drewN | apply below_drew1 | refine below_set ?_ GE422.out) | exact HB.out))) : w.heap.size ≤ gb429)); have n5_ := Aside0.mk ((by rw [hg]; exact Nat.ne_of_lt (blk_lt (g := gb422) (o := .cells #[.slice (some ad428) l0_0.length c0_0, .bool a0_1, .int .i64 a0_2] 44 (0, 0)) (by (with_reducible repeat (first | refine blk_drewN ?_ _ | refine blk_drew ?_ | refine blk_alloc ?_ _)); exact BK422.out)) : gb422 ≠ gb429)); have n6_ := Aside0.mk ((by rw [hg]; exact Nat.ne_of_gt (blk_lt (g := gb422) (o := .cells #[.slice (some ad428) l0_0.length c0_0, .bool a0_1, .int .i64 a0_2] 44 (0, 0)) (by (with_reducible repeat (first | refine blk_drewN ?_ _ | refine blk_drew ?_ | refine blk_alloc ?_ _)); exact BK422.out)) : gb429 ≠ gb422)); clear BK422; clear HB; have BK422 := n0_; have HB := n1_; have BK429 := n2_; have GW429 := n3_; have GE429 := n4_; have NB422_429 := n5_; have NB429_422 := n6_; clear n0_ n1_ n2_ n3_ n4_ n5_ n6_; clear hb hbox hg; have hnb14 := NB429_422.out; have hnc14 := NB422_429.out; have hcz15_0 : w13.cell? ⟨gb429, 0, none⟩ = some (.int .i64 0) := (blk_cell BK429.out 0).trans rfl; have hcz15_1 : w13.cell? ⟨gb429, 1, none⟩ = some (.int .i64 0) := (blk_cell BK429.out 1).trans rfl; have hcz15_2 : w13.cell? ⟨gb429, 2, none⟩ = some (.bool false) := (blk_cell BK429.out 2).trans rfl; have hfz15_0 := blk_frozen BK429.out 0; have hfz15_1 := blk_frozen BK429.out 1; have hfz15_2 := blk_frozen BK429.out 2))
                go_roundg k1
                case measure => have := HK1.out; omega
                case rel => exact ⟨(wrap64 (x4_1 + ((rd_T49 y424 x14_1).f1))), (wrap64 (x14_1 + 1)), (by first | rfl | (simp; done) | (simp [*]; done)), (by first | rfl | (simp; done) | (simp [*]; done)), H', ⟨by have := HK1.out; omega⟩, ⟨by (with_reducible repeat (first | refine blk_drewN ?_ _ | refine blk_drew ?_ | refine blk_alloc ?_ _)); refine blk_far ?_ NB422_429.out _; (with_reducible repeat (first | refine blk_drewN ?_ _ | refine blk_drew ?_ | refine blk_alloc ?_ _)); refine blk_far ?_ NB422_429.out _; (with_reducible repeat (first | refine blk_drewN ?_ _ | refine blk_drew ?_ | refine blk_alloc ?_ _)); refine blk_far ?_ NB422_429.out _; (with_reducible repeat (first | refine blk_drewN ?_ _ | refine blk_drew ?_ | refine blk_alloc ?_ _)); exact BK422.out⟩, ⟨by repeat (first | (with_reducible first | exact HB.out | apply below_alloc | apply pw_below_drewN | apply below_drew1 | refine below_set ?_ GE422.out | refine below_set ?_ GE429.out) | exact HB.out)⟩⟩
              · rw [if_neg c12] at H
                exact absurd H (by simp)
            · rw [if_neg c11] at H
              exact absurd H (by simp)
          · rw [if_neg c10] at H
            have c10b0 : decide (x14_1 < (y424.length : Int)) = false := decide_eq_false c10
            clear c10
            obtain rfl := Option.some.inj H
            go_wp2
            go_ret
            exact ⟨by first | rfl | (simp [errW_none, errW_some] <;> rfl) | (simp [*, errW_none, errW_some] <;> rfl), by repeat (first | (with_reducible first | exact HB.out | apply below_alloc | apply pw_below_drewN | apply below_drew1 | refine below_set ?_ GE422.out) | exact HB.out)⟩
    · rw [if_neg c5] at H
      exact absurd H (by simp)
  · rw [if_neg c4] at H
    exact absurd H (by simp)

/-! ### leap_Step: function 65 -/
def leap_Step.f (l0_0 : List (S49)) (a0_1 : Bool) (a0_2 : Int) (a1 : Int) : Option (Int) := (leap_Find.f l0_0 a0_1 a0_2 a1).bind fun t431 => (if t431 < (l0_0.length : Int) then (if 0 ≤ t431 then (if ((rd_T49 l0_0 t431).f0) = a1 then (some ((rd_T49 l0_0 t431).f1)) else (some 0)) else (none)) else (some 0))
set_option maxHeartbeats 8000000 in
set_option maxRecDepth 100000 in
theorem leap_Step.calls (A0_0 : Option Addr) (c0_0 : Nat) (l0_0 : List (S49)) (a0_1 : Bool) (a0_2 : Int) (a1 : Int) (r : Int) (w : World) (hr0_0 : Kd.C k49 w A0_0 l0_0.length l0_0) (hc0_0 : l0_0.length ≤ c0_0) (h : leap_Step.f l0_0 a0_1 a0_2 a1 = some r) :
    Calls Try.prog 65 #[.agg #[.slice A0_0 l0_0.length c0_0, .bool a0_1, .int .i64 a0_2], .int .i64 a1] w fun e w' => e = .returned (.int .i64 r) ∧ Below w.heap.size w w' := by
  have hu44 := Try.underlying44
  have HR0_0 := Aside0.mk hr0_0
  have HC0_0 := Aside0.mk hc0_0
  clear hr0_0 hc0_0
  have HB := Aside0.mk (Below.refl w.heap.size w)
  have H : ((leap_Find.f l0_0 a0_1 a0_2 a1).bind fun t431 => (if t431 < (l0_0.length : Int) then (if 0 ≤ t431 then (if ((rd_T49 l0_0 t431).f0) = a1 then (some ((rd_T49 l0_0 t431).f1)) else (some 0)) else (none)) else (some 0))) = some r := h
  clear h
  replace H := Option.bind_eq_some_iff.mp H
  obtain ⟨t431, A30, H⟩ := H
  replace H : (if t431 < (l0_0.length : Int) then (if 0 ≤ t431 then (if ((rd_T49 l0_0 t431).f0) = a1 then (some ((rd_T49 l0_0 t431).f1)) else (some 0)) else (none)) else (some 0)) = some r := H
  have A3 := Aside0.mk A30
  clear A30
  by_cases c4 : t431 < (l0_0.length : Int)
  · rw [if_pos c4] at H
    have c4b0 : decide (t431 < (l0_0.length : Int)) = true := decide_eq_true c4
    clear c4
    by_cases c5 : 0 ≤ t431
    · rw [if_pos c5] at H
      have c5b0 : decide (0 ≤ t431) = true := decide_eq_true c5
      clear c5
      by_cases c6 : ((rd_T49 l0_0 t431).f0) = a1
      · rw [if_pos c6] at H
        have c6b0 : (((rd_T49 l0_0 t431).f0) == a1) = true := beq_iff_eq.mpr c6
        have c6b1 : (((rd_T49 l0_0 t431).f0) != a1) = false := bne_eq_false_iff_eq.mpr c6
        clear c6
        obtain rfl := Option.some.inj H
        go_enter Try.func65, Try.ntmps65
        go_wp2_with (first | ((with_reducible refine gate_dst (N := 2) rfl ?_); refine box_event ?hg (N := 2) ?hd (cs := #[.slice A0_0 l0_0.length c0_0, .bool a0_1, .int .i64 a0_2]) (t := 44) ?hr ?_; (case hd => rfl); (case hg => rfl); (case hr => first | (go_simp; done) | (go_simp; rfl)); intro gb430 hg w7 hbox hb; have n0_ := Aside0.mk (below_step (by repeat (first | (with_reducible first | exact HB.out | apply below_alloc | apply pw_below_drewN | apply below_drew1) | exact HB.out)) hb); have n1_ := Aside0.mk (hbox); have n2_ := Aside0.mk ((by rw [hg]; exact (below_size (by repeat (first | (with_reducible first | exact HB.out | apply below_alloc | apply pw_below_drewN | apply below_drew1) | exact HB.out))) : w.heap.size ≤ gb430)); have n3_ := Aside0.mk ((by rw [hg]; exact (below_size (by repeat (first | (with_reducible first | exact HB.out | apply below_alloc | apply pw_below_drewN | apply below_drew1) | exact HB.out))) : w.heap.size ≤ gb430)); clear HB; have HB := n0_; have BK430 := n1_; have GW430 := n2_; have GE430 := n3_; clear n0_ n1_ n2_ n3_; clear hb hbox hg; have hcz8_0 : w7.cell? ⟨gb430, 0, none⟩ = some (.slice A0_0 l0_0.length c0_0) := (blk_cell BK430.out 0).trans rfl; have hcz8_1 : w7.cell? ⟨gb430, 1, none⟩ = some (.bool a0_1) := (blk_cell BK430.out 1).trans rfl; have hcz8_2 : w7.cell? ⟨gb430, 2, none⟩ = some (.int .i64 a0_2) := (blk_cell BK430.out 2).trans rfl; have hfz8_0 := blk_frozen BK430.out 0; have hfz8_1 := blk_frozen BK430.out 1; have hfz8_2 := blk_frozen BK430.out 2) | ((with_reducible refine gate_callee (f := 64) rfl ?_); refine goesL_ (some 8) rfl rfl Try.func64 (by kernel_rfl) rfl #[.agg #[.slice A0_0 l0_0.length c0_0, .bool a0_1, .int .i64 a0_2], .int .i64 a1] rfl (by (try simp only [List.map_toArray, List.map_cons, List.map_nil]); first | done | rfl | (simp only [List.length_drop, List.length_take]; rfl)) ?_; (with_reducible refine (leap_Find.calls _ _ l0_0 a0_1 a0_2 a1 t431 _ ?side1 ?side2 A3.out).mono ?_); (case side1 => repeat (first | exact (Kd.C_below HR0_0.out HB.out) | (with_reducible refine Kd.C_alloc ?_ _) | (with_reducible refine Kd.C_drewN ?_ _) | (with_reducible refine Kd.C_drew ?_))); (case side2 => exact HC0_0.out); rintro e w9 ⟨rfl, hb⟩; refine ⟨_, rfl, ?_⟩; have n0_ := Aside0.mk (blk_below (g := gb430) (o := .cells #[.slice A0_0 l0_0.length c0_0, .bool a0_1, .int .i64 a0_2] 44 (0, 0)) (by (with_reducible repeat (first | refine blk_drewN ?_ _ | refine blk_drew ?_ | refine blk_alloc ?_ _)); exact BK430.out) hb); have n1_ := Aside0.mk (below_step (by repeat (first | (with_reducible first | exact HB.out | apply below_alloc | apply pw_below_drewN | apply below_drew1 | refine below_set ?_ GE430.out) | exact HB.out)) hb); clear BK430; clear HB; have BK430 := n0_; have HB := n1_; clear n0_ n1_; (try clear hb); (try clear hb2); (try clear hk); (try clear hi); have hcz10_0 : w9.cell? ⟨gb430, 0, none⟩ = some (.slice A0_0 l0_0.length c0_0) := (blk_cell BK430.out 0).trans rfl; have hcz10_1 : w9.cell? ⟨gb430, 1, none⟩ = some (.bool a0_1) := (blk_cell BK430.out 1).trans rfl; have hcz10_2 : w9.cell? ⟨gb430, 2, none⟩ = some (.int .i64 a0_2) := (blk_cell BK430.out 2).trans rfl; have hfz10_0 := blk_frozen BK430.out 0; have hfz10_1 := blk_frozen BK430.out 1; have hfz10_2 := blk_frozen BK430.out 2; have p432 : 0 ≤ (t431 : Int) := of_decide_eq_true (by first | (with_reducible assumption) | assumption); have q432 : t431 < (l0_0.length : Int) := of_decide_eq_true (by first | (with_reducible assumption) | assumption); obtain ⟨ad432, e432, hx432_0, hx432_1, hx432_2⟩ := at_T49 HR0_0.out t431 p432 q432; cases e432; replace hx432_0 := (HB.out.cell (World.block_lt_of_cell? w _ hx432_0)).trans hx432_0; replace hx432_1 := (HB.out.cell (World.block_lt_of_cell? w _ hx432_1)).trans hx432_1; replace hx432_2 := (HB.out.cell (World.block_lt_of_cell? w _ hx432_2)).trans hx432_2; replace p432 := eq_true p432; replace q432 := eq_true q432; have p433 : 0 ≤ (t431 : Int) := of_decide_eq_true (by first | (with_reducible assumption) | assumption); have q433 : t431 < (l0_0.length : Int) := of_decide_eq_true (by first | (with_reducible assumption) | assumption); obtain ⟨ad433, e433, hx433_0, hx433_1, hx433_2⟩ := at_T49 HR0_0.out t431 p433 q433; obtain rfl : ad432 = ad433 := (by injection e433); replace hx433_0 := (HB.out.cell (World.block_lt_of_cell? w _ hx433_0)).trans hx433_0; replace hx433_1 := (HB.out.cell (World.block_lt_of_cell? w _ hx433_1)).trans hx433_1; replace hx433_2 := (HB.out.cell (World.block_lt_of_cell? w _ hx433_2)).trans hx433_2; replace p433 := eq_true p433; replace q433 := eq_true q433))
        go_ret
        exact ⟨by first | rfl | (simp [errW_none, errW_some] <;> rfl) | (simp [*, errW_none, errW_some] <;> rfl), by repeat (first | (with_reducible first | exact HB.out | apply below_alloc | apply pw_below_drewN | apply below_drew1 | refine below_set ?_ GE430.out) | exact HB.out)⟩
      · rw [if_neg c6] at H
        have c6b0 : (((rd_T49 l0_0 t431).f0) == a1) = false := beq_eq_false_iff_ne.mpr c6
        have c6b1 : (((rd_T49 l0_0 t431).f0) != a1) = true := bne_iff_ne.mpr c6
        obtain rfl := Option.some.inj H
        go_enter Try.func65, Try.ntmps65
        go_wp2_with (first | ((with_reducible refine gate_dst (N := 2) rfl ?_); refine box_event ?hg (N := 2) ?hd (cs := #[.slice A0_0 l0_0.length c0_0, .bool a0_1, .int .i64 a0_2]) (t := 44) ?hr ?_; (case hd => rfl); (case hg => rfl); (case hr => first | (go_simp; done) | (go_simp; rfl)); intro gb430 hg w11 hbox hb; have n0_ := Aside0.mk (below_step (by repeat (first | (with_reducible first | exact HB.out | apply below_alloc | apply pw_below_drewN | apply below_drew1) | exact HB.out)) hb); have n1_ := Aside0.mk (hbox); have n2_ := Aside0.mk ((by rw [hg]; exact (below_size (by repeat (first | (with_reducible first | exact HB.out | apply below_alloc | apply pw_below_drewN | apply below_drew1) | exact HB.out))) : w.heap.size ≤ gb430)); have n3_ := Aside0.mk ((by rw [hg]; exact (below_size (by repeat (first | (with_reducible first | exact HB.out | apply below_alloc | apply pw_below_drewN | apply below_drew1) | exact HB.out))) : w.heap.size ≤ gb430)); clear HB; have HB := n0_; have BK430 := n1_; have GW430 := n2_; have GE430 := n3_; clear n0_ n1_ n2_ n3_; clear hb hbox hg; have hcz12_0 : w11.cell? ⟨gb430, 0, none⟩ = some (.slice A0_0 l0_0.length c0_0) := (blk_cell BK430.out 0).trans rfl; have hcz12_1 : w11.cell? ⟨gb430, 1, none⟩ = some (.bool a0_1) := (blk_cell BK430.out 1).trans rfl; have hcz12_2 : w11.cell? ⟨gb430, 2, none⟩ = some (.int .i64 a0_2) := (blk_cell BK430.out 2).trans rfl; have hfz12_0 := blk_frozen BK430.out 0; have hfz12_1 := blk_frozen BK430.out 1; have hfz12_2 := blk_frozen BK430.out 2) | ((with_reducible refine gate_callee (f := 64) rfl ?_); refine goesL_ (some 8) rfl rfl Try.func64 (by kernel_rfl) rfl #[.agg #[.slice A0_0 l0_0.length c0_0, .bool a0_1, .int .i64 a0_2], .int .i64 a1] rfl (by (try simp only [List.map_toArray, List.map_cons, List.map_nil]); first | done | rfl | (simp only [List.length_drop, List.length_take]; rfl)) ?_; (with_reducible refine (leap_Find.calls _ _ l0_0 a0_1 a0_2 a1 t431 _ ?side1 ?side2 A3.out).mono ?_); (case side1 => repeat (first | exact (Kd.C_below HR0_0.out HB.out) | (with_reducible refine Kd.C_alloc ?_ _) | (with_reducible refine Kd.C_drewN ?_ _) | (with_reducible refine Kd.C_drew ?_))); (case side2 => exact HC0_0.out); rintro e w13 ⟨rfl, hb⟩; refine ⟨_, rfl, ?_⟩; have n0_ := Aside0.mk (blk_below (g := gb430) (o := .cells #[.slice A0_0 l0_0.length c0_0, .bool a0_1, .int .i64 a0_2] 44 (0, 0)) (by (with_reducible repeat (first | refine blk_drewN ?_ _ | refine blk_drew ?_ | refine blk_alloc ?_ _)); exact BK430.out) hb); have n1_ := Aside0.mk (below_step (by repeat (first | (with_reducible first | exact HB.out | apply below_alloc | apply pw_below_drewN | apply below_drew1 | refine below_set ?_ GE430.out) | exact HB.out)) hb); clear BK430; clear HB; have BK430 := n0_; have HB := n1_; clear n0_ n1_; (try clear hb); (try clear hb2); (try clear hk); (try clear hi); have hcz14_0 : w13.cell? ⟨gb430, 0, none⟩ = some (.slice A0_0 l0_0.length c0_0) := (blk_cell BK430.out 0).trans rfl; have hcz14_1 : w13.cell? ⟨gb430, 1, none⟩ = some (.bool a0_1) := (blk_cell BK430.out 1).trans rfl; have hcz14_2 : w13.cell? ⟨gb430, 2, none⟩ = some (.int .i64 a0_2) := (blk_cell BK430.out 2).trans rfl; have hfz14_0 := blk_frozen BK430.out 0; have hfz14_1 := blk_frozen BK430.out 1; have hfz14_2 := blk_frozen BK430.out 2; have p432 : 0 ≤ (t431 : Int) := of_decide_eq_true (by first | (with_reducible assumption) | assumption); have q432 : t431 < (l0_0.length : Int) := of_decide_eq_true (by first | (with_reducible assumption) | assumption); obtain ⟨ad432, e432, hx432_0, hx432_1, hx432_2⟩ := at_T49 HR0_0.out t431 p432 q432; cases e432; replace hx432_0 := (HB.out.cell (World.block_lt_of_cell? w _ hx432_0)).trans hx432_0; replace hx432_1 := (HB.out.cell (World.block_lt_of_cell? w _ hx432_1)).trans hx432_1; replace hx432_2 := (HB.out.cell (World.block_lt_of_cell? w _ hx432_2)).trans hx432_2; replace p432 := eq_true p432; replace q432 := eq_true q432))
        go_ret
        exact ⟨by first | rfl | (simp [errW_none, errW_some] <;> rfl) | (simp [*, errW_none, errW_some] <;> rfl), by repeat (first | (with_reducible first | exact HB.out | apply below_alloc | apply pw_below_drewN | apply below_drew1 | refine below_set ?_ GE430.out) | exact HB.out)⟩
    · rw [if_neg c5] at H
      exact absurd H (by simp)
  · rw [if_neg c4] at H
    have c4b0 : decide (t431 < (l0_0.length : Int)) = false := decide_eq_false c4
    clear c4
    obtain rfl := Option.some.inj H
    go_enter Try.func65, Try.ntmps65
    go_wp2_with (first | ((with_reducible refine gate_dst (N := 2) rfl ?_); refine box_event ?hg (N := 2) ?hd (cs := #[.slice A0_0 l0_0.length c0_0, .bool a0_1, .int .i64 a0_2]) (t := 44) ?hr ?_; (case hd => rfl); (case hg => rfl); (case hr => first | (go_simp; done) | (go_simp; rfl)); intro gb430 hg w15 hbox hb; have n0_ := Aside0.mk (below_step (by repeat (first | (with_reducible first | exact HB.out | apply below_alloc | apply pw_below_drewN | apply below_drew1) | exact HB.out)) hb); have n1_ := Aside0.mk (hbox); have n2_ := Aside0.mk ((by rw [hg]; exact (below_size (by repeat (first | (with_reducible first | exact HB.out | apply below_alloc | apply pw_below_drewN | apply below_drew1) | exact HB.out))) : w.heap.size ≤ gb430)); have n3_ := Aside0.mk ((by rw [hg]; exact (below_size (by repeat (first | (with_reducible first | exact HB.out | apply below_alloc | apply pw_below_drewN | apply below_drew1) | exact HB.out))) : w.heap.size ≤ gb430)); clear HB; have HB := n0_; have BK430 := n1_; have GW430 := n2_; have GE430 := n3_; clear n0_ n1_ n2_ n3_; clear hb hbox hg; have hcz16_0 : w15.cell? ⟨gb430, 0, none⟩ = some (.slice A0_0 l0_0.length c0_0) := (blk_cell BK430.out 0).trans rfl; have hcz16_1 : w15.cell? ⟨gb430, 1, none⟩ = some (.bool a0_1) := (blk_cell BK430.out 1).trans rfl; have hcz16_2 : w15.cell? ⟨gb430, 2, none⟩ = some (.int .i64 a0_2) := (blk_cell BK430.out 2).trans rfl; have hfz16_0 := blk_frozen BK430.out 0; have hfz16_1 := blk_frozen BK430.out 1; have hfz16_2 := blk_frozen BK430.out 2) | ((with_reducible refine gate_callee (f := 64) rfl ?_); refine goesL_ (some 8) rfl rfl Try.func64 (by kernel_rfl) rfl #[.agg #[.slice A0_0 l0_0.length c0_0, .bool a0_1, .int .i64 a0_2], .int .i64 a1] rfl (by (try simp only [List.map_toArray, List.map_cons, List.map_nil]); first | done | rfl | (simp only [List.length_drop, List.length_take]; rfl)) ?_; (with_reducible refine (leap_Find.calls _ _ l0_0 a0_1 a0_2 a1 t431 _ ?side1 ?side2 A3.out).mono ?_); (case side1 => repeat (first | exact (Kd.C_below HR0_0.out HB.out) | (with_reducible refine Kd.C_alloc ?_ _) | (with_reducible refine Kd.C_drewN ?_ _) | (with_reducible refine Kd.C_drew ?_))); (case side2 => exact HC0_0.out); rintro e w17 ⟨rfl, hb⟩; refine ⟨_, rfl, ?_⟩; have n0_ := Aside0.mk (blk_below (g := gb430) (o := .cells #[.slice A0_0 l0_0.length c0_0, .bool a0_1, .int .i64 a0_2] 44 (0, 0)) (by (with_reducible repeat (first | refine blk_drewN ?_ _ | refine blk_drew ?_ | refine blk_alloc ?_ _)); exact BK430.out) hb); have n1_ := Aside0.mk (below_step (by repeat (first | (with_reducible first | exact HB.out | apply below_alloc | apply pw_below_drewN | apply below_drew1 | refine below_set ?_ GE430.out) | exact HB.out)) hb); clear BK430; clear HB; have BK430 := n0_; have HB := n1_; clear n0_ n1_; (try clear hb); (try clear hb2); (try clear hk); (try clear hi); have hcz18_0 : w17.cell? ⟨gb430, 0, none⟩ = some (.slice A0_0 l0_0.length c0_0) := (blk_cell BK430.out 0).trans rfl; have hcz18_1 : w17.cell? ⟨gb430, 1, none⟩ = some (.bool a0_1) := (blk_cell BK430.out 1).trans rfl; have hcz18_2 : w17.cell? ⟨gb430, 2, none⟩ = some (.int .i64 a0_2) := (blk_cell BK430.out 2).trans rfl; have hfz18_0 := blk_frozen BK430.out 0; have hfz18_1 := blk_frozen BK430.out 1; have hfz18_2 := blk_frozen BK430.out 2))
    go_ret
    exact ⟨by first | rfl | (simp [errW_none, errW_some] <;> rfl) | (simp [*, errW_none, errW_some] <;> rfl), by repeat (first | (with_reducible first | exact HB.out | apply below_alloc | apply pw_below_drewN | apply below_drew1 | refine below_set ?_ GE430.out) | exact HB.out)⟩

/-! ### leap_Length: function 28 -/
def leap_Length.f (l0_0 : List (S49)) (a0_1 : Bool) (a0_2 : Int) (a1 : Int) : Option (Int) := (leap_Step.f l0_0 a0_1 a0_2 a1).bind fun t435 => (some (wrap64 (86400 + t435)))
set_option maxHeartbeats 8000000 in
set_option maxRecDepth 100000 in
theorem leap_Length.calls (A0_0 : Option Addr) (c0_0 : Nat) (l0_0 : List (S49)) (a0_1 : Bool) (a0_2 : Int) (a1 : Int) (r : Int) (w : World) (hr0_0 : Kd.C k49 w A0_0 l0_0.length l0_0) (hc0_0 : l0_0.length ≤ c0_0) (h : leap_Length.f l0_0 a0_1 a0_2 a1 = some r) :
    Calls Try.prog 28 #[.agg #[.slice A0_0 l0_0.length c0_0, .bool a0_1, .int .i64 a0_2], .int .i64 a1] w fun e w' => e = .returned (.int .i64 r) ∧ Below w.heap.size w w' := by
  have hu44 := Try.underlying44
  have HR0_0 := Aside0.mk hr0_0
  have HC0_0 := Aside0.mk hc0_0
  clear hr0_0 hc0_0
  have HB := Aside0.mk (Below.refl w.heap.size w)
  have H : ((leap_Step.f l0_0 a0_1 a0_2 a1).bind fun t435 => (some (wrap64 (86400 + t435)))) = some r := h
  clear h
  replace H := Option.bind_eq_some_iff.mp H
  obtain ⟨t435, A30, H⟩ := H
  replace H : (some (wrap64 (86400 + t435))) = some r := H
  have A3 := Aside0.mk A30
  clear A30
  obtain rfl := Option.some.inj H
  go_enter Try.func28, Try.ntmps28
  go_wp2_with (first | ((with_reducible refine gate_dst (N := 2) rfl ?_); refine box_event ?hg (N := 2) ?hd (cs := #[.slice A0_0 l0_0.length c0_0, .bool a0_1, .int .i64 a0_2]) (t := 44) ?hr ?_; (case hd => rfl); (case hg => rfl); (case hr => first | (go_simp; done) | (go_simp; rfl)); intro gb434 hg w4 hbox hb; have n0_ := Aside0.mk (below_step (by repeat (first | (with_reducible first | exact HB.out | apply below_alloc | apply pw_below_drewN | apply below_drew1) | exact HB.out)) hb); have n1_ := Aside0.mk (hbox); have n2_ := Aside0.mk ((by rw [hg]; exact (below_size (by repeat (first | (with_reducible first | exact HB.out | apply below_alloc | apply pw_below_drewN | apply below_drew1) | exact HB.out))) : w.heap.size ≤ gb434)); have n3_ := Aside0.mk ((by rw [hg]; exact (below_size (by repeat (first | (with_reducible first | exact HB.out | apply below_alloc | apply pw_below_drewN | apply below_drew1) | exact HB.out))) : w.heap.size ≤ gb434)); clear HB; have HB := n0_; have BK434 := n1_; have GW434 := n2_; have GE434 := n3_; clear n0_ n1_ n2_ n3_; clear hb hbox hg; have hcz5_0 : w4.cell? ⟨gb434, 0, none⟩ = some (.slice A0_0 l0_0.length c0_0) := (blk_cell BK434.out 0).trans rfl; have hcz5_1 : w4.cell? ⟨gb434, 1, none⟩ = some (.bool a0_1) := (blk_cell BK434.out 1).trans rfl; have hcz5_2 : w4.cell? ⟨gb434, 2, none⟩ = some (.int .i64 a0_2) := (blk_cell BK434.out 2).trans rfl; have hfz5_0 := blk_frozen BK434.out 0; have hfz5_1 := blk_frozen BK434.out 1; have hfz5_2 := blk_frozen BK434.out 2) | ((with_reducible refine gate_callee (f := 65) rfl ?_); refine goesL_ (some 7) rfl rfl Try.func65 (by kernel_rfl) rfl #[.agg #[.slice A0_0 l0_0.length c0_0, .bool a0_1, .int .i64 a0_2], .int .i64 a1] rfl (by (try simp only [List.map_toArray, List.map_cons, List.map_nil]); first | done | rfl | (simp only [List.length_drop, List.length_take]; rfl)) ?_; (with_reducible refine (leap_Step.calls _ _ l0_0 a0_1 a0_2 a1 t435 _ ?side1 ?side2 A3.out).mono ?_); (case side1 => repeat (first | exact (Kd.C_below HR0_0.out HB.out) | (with_reducible refine Kd.C_alloc ?_ _) | (with_reducible refine Kd.C_drewN ?_ _) | (with_reducible refine Kd.C_drew ?_))); (case side2 => exact HC0_0.out); rintro e w6 ⟨rfl, hb⟩; refine ⟨_, rfl, ?_⟩; have n0_ := Aside0.mk (blk_below (g := gb434) (o := .cells #[.slice A0_0 l0_0.length c0_0, .bool a0_1, .int .i64 a0_2] 44 (0, 0)) (by (with_reducible repeat (first | refine blk_drewN ?_ _ | refine blk_drew ?_ | refine blk_alloc ?_ _)); exact BK434.out) hb); have n1_ := Aside0.mk (below_step (by repeat (first | (with_reducible first | exact HB.out | apply below_alloc | apply pw_below_drewN | apply below_drew1 | refine below_set ?_ GE434.out) | exact HB.out)) hb); clear BK434; clear HB; have BK434 := n0_; have HB := n1_; clear n0_ n1_; (try clear hb); (try clear hb2); (try clear hk); (try clear hi)))
  go_ret
  exact ⟨by first | rfl | (simp [errW_none, errW_some] <;> rfl) | (simp [*, errW_none, errW_some] <;> rfl), by repeat (first | (with_reducible first | exact HB.out | apply below_alloc | apply pw_below_drewN | apply below_drew1 | refine below_set ?_ GE434.out) | exact HB.out)⟩

end Go.Proofs.Ythoigncoojcanaa.PAll
