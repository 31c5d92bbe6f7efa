-- Written for this claim by wip/tools of this repo (after the kit's print; own contracts laid in).
import Derived.Test.YthoigncoojcanaaPAllx0
import Derived.Test.YthoigncoojcanaaShort
namespace Go.Proofs.Ythoigncoojcanaa.PAll
open Go.RowKit Go.Proofs.YthoigncoojcanaaW.PrintWords Go.Proofs.YthoigncoojcanaaW.PrintLast Go.Proofs.YthoigncoojcanaaW.PrintMore
attribute [local go_sem] max2_int min2_int max_two min_two max_three min_three max_four min_four   -- for this text's walks alone
set_option linter.unusedVariables false
set_option linter.unusedSimpArgs false

/-! ### num_Sub: function 55 -/
def num_Sub.f (a0 : Int) (a1 : Int) : Option (Int × Bool) := if ((decide ((wrap64 (a0 - a1)) < a0)) != (decide (a1 > 0))) = true then (if a1 = 0 then (some (wrap64 (a0 - a1), true)) else (some (0, false))) else (some (wrap64 (a0 - a1), true))
set_option maxHeartbeats 8000000 in
set_option maxRecDepth 100000 in
theorem num_Sub.calls (a0 : Int) (a1 : Int) (r1 : Int) (r2 : Bool) (w : World) (h : num_Sub.f a0 a1 = some (r1, r2)) :
  Calls Try.prog 55 #[.int .i64 a0, .int .i64 a1] w fun e w' => e = .returned (.tuple #[.int .i64 r1, .bool r2]) ∧ Drawn0 w w' := by
 have H : (if ((decide ((wrap64 (a0 - a1)) < a0)) != (decide (a1 > 0))) = true then (if a1 = 0 then (some (wrap64 (a0 - a1), true)) else (some (0, false))) else (some (wrap64 (a0 - a1), true))) = some (r1, r2) := h
 clear h
 by_cases c3 : ((decide ((wrap64 (a0 - a1)) < a0)) != (decide (a1 > 0))) = true
 ·rw [if_pos c3] at H
  have c3b0 : ((decide ((wrap64 (a0 - a1)) < a0)) != (decide (a1 > 0))) = true := c3
  (try (have c3b1 : decide ((decide ((wrap64 (a0 - a1)) < a0)) = (decide (a1 > 0))) = false := by first | (simp; done) | (simp at c3; done) | simpa using c3))
  (try (have c3b2 : ((decide ((wrap64 (a0 - a1)) < a0)) == (decide (a1 > 0))) = false := by first | (simp; done) | (simp at c3; done) | simpa using c3))
  (try (have c3b3 : ¬ ((decide ((wrap64 (a0 - a1)) < a0)) = (decide (a1 > 0))) := by first | (simp; done) | (simp at c3; done) | simpa using c3))
  clear c3
  by_cases c4 : a1 = 0
  ·rw [if_pos c4] at H
   have c4b0 : (a1 == 0) = true := beq_iff_eq.mpr c4
   have c4b1 : (a1 != 0) = false := bne_eq_false_iff_eq.mpr c4
   clear c4
   simp only [Option.some.injEq, Prod.mk.injEq] at H
   obtain ⟨rfl, rfl⟩ := H
   go_enter Try.func55, Try.ntmps55
   go_wp2
   go_ret2
   exact fd
  ·rw [if_neg c4] at H
   have c4b0 : (a1 == 0) = false := beq_eq_false_iff_ne.mpr c4
   have c4b1 : (a1 != 0) = true := bne_iff_ne.mpr c4
   simp only [Option.some.injEq, Prod.mk.injEq] at H
   obtain ⟨rfl, rfl⟩ := H
   go_enter Try.func55, Try.ntmps55
   go_wp2
   go_ret2
   exact fd
 ·rw [if_neg c3] at H
  have c3b0 : ((decide ((wrap64 (a0 - a1)) < a0)) != (decide (a1 > 0))) = false := by first | (simp; done) | (simp at c3; done) | simpa using c3
  (try (have c3b1 : decide ((decide ((wrap64 (a0 - a1)) < a0)) = (decide (a1 > 0))) = true := by first | (simp; done) | (simp at c3; done) | simpa using c3))
  (try (have c3b2 : ((decide ((wrap64 (a0 - a1)) < a0)) == (decide (a1 > 0))) = true := by first | (simp; done) | (simp at c3; done) | simpa using c3))
  clear c3
  simp only [Option.some.injEq, Prod.mk.injEq] at H
  obtain ⟨rfl, rfl⟩ := H
  go_enter Try.func55, Try.ntmps55
  go_wp2
  go_ret2
  exact fd

/-! ### record_Check: function 91 -/
mutual
def record_Check.l0 : Nat → List (S53) → List (S53) → Int → Int → Int → Int → Option (Int × Int)
 | 0, _, _, _, _, _, _ => none
 | k + 1, x0, x12, x13, x14, x102000, x102001 => if x14 < x13 then (if 0 ≤ x14 then (if x14 < (x12.length : Int) then ((num_Sub.f ((rd_T53 x12 x14).f1) x102001).bind fun bt104 => (if bt104.2 = true then (if bt104.1 = 0 then (record_Check.j1 k x0 x14 bt104.1 bt104.2 (x14 == (wrap64 ((x0.length : Int) - 1))) x12 x13 x14 x102000 x102001 ((rd_T53 x12 x14).f0) ((rd_T53 x12 x14).f1)) else (record_Check.j1 k x0 x14 bt104.1 bt104.2 false x12 x13 x14 x102000 x102001 ((rd_T53 x12 x14).f0) ((rd_T53 x12 x14).f1))) else (record_Check.j1 k x0 x14 bt104.1 bt104.2 false x12 x13 x14 x102000 x102001 ((rd_T53 x12 x14).f0) ((rd_T53 x12 x14).f1)))) else (none)) else (none)) else (some ((x0.length : Int), 0))
def record_Check.j1 : Nat → List (S53) → Int → Int → Bool → Bool → List (S53) → Int → Int → Int → Int → Int → Int → Option (Int × Int)
 | 0, _, _, _, _, _, _, _, _, _, _, _, _ => none
 | k + 1, x0, x5, x7, x8, x9, x12, x13, x14, x102000, x102001, x104000, x104001 => if x9 = true then (record_Check.j2 k x0 x5 x7 x8 x9 0 x12 x13 x14 x102000 x102001 x104000 x104001) else (record_Check.j2 k x0 x5 x7 x8 x9 2419199 x12 x13 x14 x102000 x102001 x104000 x104001)
def record_Check.j2 : Nat → List (S53) → Int → Int → Bool → Bool → Int → List (S53) → Int → Int → Int → Int → Int → Int → Option (Int × Int)
 | 0, _, _, _, _, _, _, _, _, _, _, _, _, _ => none
 | k + 1, x0, x5, x7, x8, x9, x10, x12, x13, x14, x102000, x102001, x104000, x104001 => if x5 > 200 then (some (x5, 8)) else (if x104000 < 0 then (some (x5, 9)) else (if x9 = true then (record_Check.j3 k x0 x5 x10 x12 x13 x14 false x102000 x102001 x104000 x104001) else (if x8 = true then (if x7 = 1 then (record_Check.j3 k x0 x5 x10 x12 x13 x14 false x102000 x102001 x104000 x104001) else (record_Check.j3 k x0 x5 x10 x12 x13 x14 (x7 != (-1)) x102000 x102001 x104000 x104001)) else (record_Check.j3 k x0 x5 x10 x12 x13 x14 true x102000 x102001 x104000 x104001))))
def record_Check.j3 : Nat → List (S53) → Int → Int → List (S53) → Int → Int → Bool → Int → Int → Int → Int → Option (Int × Int)
 | 0, _, _, _, _, _, _, _, _, _, _, _ => none
 | k + 1, x0, x5, x10, x12, x13, x14, x49, x102000, x102001, x104000, x104001 => if x49 = true then (some (x5, 6)) else (if x5 > 0 then (if (wrap64 (x104000 - x102000)) < x10 then (some (x5, 7)) else (record_Check.l0 k x0 x12 x13 (wrap64 (x14 + 1)) x104000 x104001)) else (record_Check.l0 k x0 x12 x13 (wrap64 (x14 + 1)) x104000 x104001))
end
def record_Check.f (k : Nat) (l0 : List (S53)) : Option (Int × Int) := record_Check.l0 k l0 l0 (l0.length : Int) 0 (-2419199) 0
theorem record_Check.mono_l : ∀ k, (∀ y0 y1 y2 y3 y4 y5, LeO (record_Check.l0 k y0 y1 y2 y3 y4 y5) (record_Check.l0 (k + 1) y0 y1 y2 y3 y4 y5)) ∧ (∀ y0 y1 y2 y3 y4 y5 y6 y7 y8 y9 y10 y11, LeO (record_Check.j1 k y0 y1 y2 y3 y4 y5 y6 y7 y8 y9 y10 y11) (record_Check.j1 (k + 1) y0 y1 y2 y3 y4 y5 y6 y7 y8 y9 y10 y11)) ∧ (∀ y0 y1 y2 y3 y4 y5 y6 y7 y8 y9 y10 y11 y12, LeO (record_Check.j2 k y0 y1 y2 y3 y4 y5 y6 y7 y8 y9 y10 y11 y12) (record_Check.j2 (k + 1) y0 y1 y2 y3 y4 y5 y6 y7 y8 y9 y10 y11 y12)) ∧ (∀ y0 y1 y2 y3 y4 y5 y6 y7 y8 y9 y10, LeO (record_Check.j3 k y0 y1 y2 y3 y4 y5 y6 y7 y8 y9 y10) (record_Check.j3 (k + 1) y0 y1 y2 y3 y4 y5 y6 y7 y8 y9 y10))
 | 0 => ⟨fun _ _ _ _ _ _ r h => by simp [record_Check.l0] at h, fun _ _ _ _ _ _ _ _ _ _ _ _ r h => by simp [record_Check.j1] at h, fun _ _ _ _ _ _ _ _ _ _ _ _ _ r h => by simp [record_Check.j2] at h, fun _ _ _ _ _ _ _ _ _ _ _ r h => by simp [record_Check.j3] at h⟩
 | k + 1 => by
  obtain ⟨ih0, ih1, ih2, ih3⟩ := record_Check.mono_l k
  refine ⟨?_, ?_, ?_, ?_⟩
  ·intro y0 y1 y2 y3 y4 y5
   unfold record_Check.l0
   repeat' first
   | (with_reducible exact ih0 _ _ _ _ _ _)
   | (with_reducible exact ih1 _ _ _ _ _ _ _ _ _ _ _ _)
   | (with_reducible exact ih2 _ _ _ _ _ _ _ _ _ _ _ _ _)
   | (with_reducible exact ih3 _ _ _ _ _ _ _ _ _ _ _)
   | (with_reducible exact LeO.refl _)
   | (with_reducible exact LeO.none _)
   | (with_reducible refine LeO.ite ?_ ?_)
   | (with_reducible refine LeO.bind ?_ (fun _ => ?_))
  ·intro y0 y1 y2 y3 y4 y5 y6 y7 y8 y9 y10 y11
   unfold record_Check.j1
   repeat' first
   | (with_reducible exact ih0 _ _ _ _ _ _)
   | (with_reducible exact ih1 _ _ _ _ _ _ _ _ _ _ _ _)
   | (with_reducible exact ih2 _ _ _ _ _ _ _ _ _ _ _ _ _)
   | (with_reducible exact ih3 _ _ _ _ _ _ _ _ _ _ _)
   | (with_reducible exact LeO.refl _)
   | (with_reducible exact LeO.none _)
   | (with_reducible refine LeO.ite ?_ ?_)
   | (with_reducible refine LeO.bind ?_ (fun _ => ?_))
  ·intro y0 y1 y2 y3 y4 y5 y6 y7 y8 y9 y10 y11 y12
   unfold record_Check.j2
   repeat' first
   | (with_reducible exact ih0 _ _ _ _ _ _)
   | (with_reducible exact ih1 _ _ _ _ _ _ _ _ _ _ _ _)
   | (with_reducible exact ih2 _ _ _ _ _ _ _ _ _ _ _ _ _)
   | (with_reducible exact ih3 _ _ _ _ _ _ _ _ _ _ _)
   | (with_reducible exact LeO.refl _)
   | (with_reducible exact LeO.none _)
   | (with_reducible refine LeO.ite ?_ ?_)
   | (with_reducible refine LeO.bind ?_ (fun _ => ?_))
  ·intro y0 y1 y2 y3 y4 y5 y6 y7 y8 y9 y10
   unfold record_Check.j3
   repeat' first
   | (with_reducible exact ih0 _ _ _ _ _ _)
   | (with_reducible exact ih1 _ _ _ _ _ _ _ _ _ _ _ _)
   | (with_reducible exact ih2 _ _ _ _ _ _ _ _ _ _ _ _ _)
   | (with_reducible exact ih3 _ _ _ _ _ _ _ _ _ _ _)
   | (with_reducible exact LeO.refl _)
   | (with_reducible exact LeO.none _)
   | (with_reducible refine LeO.ite ?_ ?_)
   | (with_reducible refine LeO.bind ?_ (fun _ => ?_))
theorem record_Check.mono : ∀ a0 k, LeO (record_Check.f k a0) (record_Check.f (k + 1) a0) := by
 intro a0 k
 obtain ⟨ih0, ih1, ih2, ih3⟩ := record_Check.mono_l k
 unfold record_Check.f
 repeat' first
   | (with_reducible exact ih0 _ _ _ _ _ _)
   | (with_reducible exact ih1 _ _ _ _ _ _ _ _ _ _ _ _)
   | (with_reducible exact ih2 _ _ _ _ _ _ _ _ _ _ _ _ _)
   | (with_reducible exact ih3 _ _ _ _ _ _ _ _ _ _ _)
   | (with_reducible exact LeO.refl _)
   | (with_reducible exact LeO.none _)
   | (with_reducible refine LeO.ite ?_ ?_)
   | (with_reducible refine LeO.bind ?_ (fun _ => ?_))
set_option maxHeartbeats 8000000 in
set_option maxRecDepth 100000 in
theorem record_Check.calls (k : Nat) (A0 : Option Addr) (c0 : Nat) (l0 : List (S53)) (r1 : Int) (r2 : Int) (w : World) (hr0 : Kd.C k53 w A0 l0.length l0) (hc0 : l0.length ≤ c0) (h : record_Check.f k l0 = some (r1, r2)) :
  Calls Try.prog 91 #[.slice A0 l0.length c0] w fun e w' => e = .returned (.tuple #[.int .i64 r1, .int .i64 r2]) ∧ Below w.heap.size w w' := by
 have hu53 := Try.underlying53
 have HR0 := Aside0.mk hr0
 have HC0 := Aside0.mk hc0
 clear hr0 hc0
 have HB := Aside0.mk (Below.refl w.heap.size w)
 have H : (record_Check.l0 k l0 l0 (l0.length : Int) 0 (-2419199) 0) = some (r1, r2) := h
 clear h
 have H' := Aside0.mk H
 clear H
 go_enter Try.func91, Try.ntmps91
 go_wp2_with (first | ((with_reducible refine gate_dst (N := 4) rfl ?_); (try (refine gate_guard (by rfl) ?_; dsimp only)); refine box_event ?hg (N := 4) ?hd (cs := #[.int .i64 0, .int .i64 0]) (t := 53) ?hr ?_; (case hd => rfl); (case hg => rfl); (case hr => first | (go_simp; done) | (go_simp; rfl)); intro gb101 hg w2 hbox hb; have n1_ := Aside0.mk (hbox); have GW101 := gw HB hg; have GE101 := gw HB hg; replace HB := bs HB hb; have BK101 := n1_; clear n1_; clear hb hbox hg; have hcz3_0 := bc BK101 0; have hcz3_1 := bc BK101 1; have hfz3_0 := bf BK101 0; have hfz3_1 := bf BK101 1))
 go_loopg [14] k (fun kq v14 w' => ∃ (x14_1 : Int) (x102000_1 : Int) (x102001_1 : Int), v14 = .int .i64 x14_1 ∧ Aside0 (record_Check.l0 kq l0 l0 (l0.length : Int) x14_1 x102000_1 x102001_1 = some (r1, r2)) ∧ Aside0 (kq ≤ k) ∧ Aside0 (w'.heap[gb101]? = some (.cells #[.int .i64 x102000_1, .int .i64 x102001_1] 53 (0, 0))) ∧ Aside0 (Below w.heap.size w w'))
 case atStart => exact ⟨(0), ((-2419199)), (0), pr, H', ⟨Nat.le_refl _⟩, ⟨by (with_reducible repeat (first | refine blk_drewN ?_ _ | refine blk_drew ?_ | refine blk_alloc ?_ _)); refine blk_put (cs := #[.int .i64 (-2419199), .int .i64 0]) ?_ 1 _ rfl; (with_reducible repeat (first | refine blk_drewN ?_ _ | refine blk_drew ?_ | refine blk_alloc ?_ _)); refine blk_put (cs := #[.int .i64 0, .int .i64 0]) ?_ 0 _ rfl; (with_reducible repeat (first | refine blk_drewN ?_ _ | refine blk_drew ?_ | refine blk_alloc ?_ _)); exact BK101.out⟩, ba HB⟩
 case round =>
  clear H'
  try clear p2
  try clear hcz3_0
  try clear hcz3_1
  try clear hfz3_0
  try clear hfz3_1
  obtain ⟨x14_1, x102000_1, x102001_1, rfl, HA, HK1, BK101, HB⟩ := hrel
  cases gk with
  | zero => exact absurd HA.out (by simp [record_Check.l0])
  | succ k1 =>
   have H := HA.out
   clear HA
   simp only [record_Check.l0] at H
   by_cases c4 : x14_1 < (l0.length : Int)
   ·rw [if_pos c4] at H
    have c4b0 : decide (x14_1 < (l0.length : Int)) = true := decide_eq_true c4
    clear c4
    by_cases c5 : 0 ≤ x14_1
    ·rw [if_pos c5] at H
     have c5b0 : decide (0 ≤ x14_1) = true := decide_eq_true c5
     clear c5
     by_cases c6 : x14_1 < (l0.length : Int)
     ·rw [if_pos c6] at H
      have c6b0 : decide (x14_1 < (l0.length : Int)) = true := decide_eq_true c6
      clear c6
      obtain ⟨⟨t104, t105⟩, A7, H⟩ := bnd H
      try dsimp only at H
      have HC8 := Aside0.mk H
      clear H
      have p102 : 0 ≤ (x14_1 : Int) := pa
      have q102 : x14_1 < (l0.length : Int) := pa
      obtain ⟨ad102, e102, hx102_0, hx102_1⟩ := at_T53 HR0.out x14_1 p102 q102
      cases e102
      replace hx102_0 := hx HB hx102_0
      replace hx102_1 := hx HB hx102_1
      replace p102 := eq_true p102
      replace q102 := eq_true q102
      go_upto_region 6 with (first | ((with_reducible refine gate_dst (N := 6) rfl ?_); (try (refine gate_guard (by rfl) ?_; dsimp only)); refine box_event ?hg (N := 6) ?hd (cs := #[.int .i64 0, .int .i64 0]) (t := 53) ?hr ?_; (case hd => rfl); (case hg => rfl); (case hr => first | (go_simp; done) | (go_simp; rfl)); intro gb103 hg w9 hbox hb; have n2_ := Aside0.mk (hbox); have GW103 := gw HB hg; have GE103 := gw HB hg; have NB101_103 := nl BK101 hg; have NB103_101 := nr BK101 hg; replace BK101 := kb BK101 hb; replace HB := bs HB hb; have BK103 := n2_; clear n2_; clear hb hbox hg; have hnb10 := NB103_101.out; have hnc10 := NB101_103.out; have hcz11_0 := bc BK103 0; have hcz11_1 := bc BK103 1; have hfz11_0 := bf BK103 0; have hfz11_1 := bf BK103 1; have hcz12_0 := bc BK101 0; have hcz12_1 := bc BK101 1; have hfz12_0 := bf BK101 0; have hfz12_1 := bf BK101 1) | (refine gN (some 24) Try.func55 #[.int .i64 ((rd_T53 l0 x14_1).f1), .int .i64 x102001_1] (num_Sub.calls ((rd_T53 l0 x14_1).f1) x102001_1 t104 t105 _ A7.out) ?_; intro nd))
      (try simp only [Act.put, List.setIfInBounds_toArray, List.set_cons_zero, List.set_cons_succ])
      go_cut [9] (fun v9 wc => ∃ (kq : Nat) (x9_7 : Bool), v9 = .bool x9_7 ∧ Aside0 (record_Check.j1 kq l0 x14_1 t104 t105 x9_7 l0 (l0.length : Int) x14_1 x102000_1 x102001_1 ((rd_T53 l0 x14_1).f0) ((rd_T53 l0 x14_1).f1) = some (r1, r2)) ∧ Aside0 (kq ≤ k1) ∧ Aside0 (wc.heap[gb101]? = some (.cells #[.int .i64 x102000_1, .int .i64 x102001_1] 53 (0, 0))) ∧ Aside0 (wc.heap[gb103]? = some (.cells #[.int .i64 ((rd_T53 l0 x14_1).f0), .int .i64 ((rd_T53 l0 x14_1).f1)] 53 (0, 0))) ∧ Aside0 (Below w.heap.size w wc))
      case first =>
       have H := HC8.out
       clear HC8
       by_cases c13 : t105 = true
       ·subst c13
        rw [if_pos rfl] at H
        by_cases c14 : t104 = 0
        ·rw [if_pos c14] at H
         have c14b0 : (t104 == 0) = true := beq_iff_eq.mpr c14
         have c14b1 : (t104 != 0) = false := bne_eq_false_iff_eq.mpr c14
         clear c14
         (first | rw [c14b0] | (simp only [i64_w, i32_w]; rw [c14b0]) | skip)
         have H' := Aside0.mk H
         clear H
         go_wp2
         go_meet
         case rel => exact ⟨_, ((x14_1 == (wrap64 ((l0.length : Int) - 1)))), pr, H', ⟨by have := HK1.out; first | omega | exact Nat.le_refl _⟩, kg BK101, ⟨by (with_reducible repeat (first | refine blk_drewN ?_ _ | refine blk_drew ?_ | refine blk_alloc ?_ _)); refine blk_put (cs := #[.int .i64 ((rd_T53 l0 x14_1).f0), .int .i64 0]) ?_ 1 _ rfl; (with_reducible repeat (first | refine blk_drewN ?_ _ | refine blk_drew ?_ | refine blk_alloc ?_ _)); refine blk_put (cs := #[.int .i64 0, .int .i64 0]) ?_ 0 _ rfl; (with_reducible repeat (first | refine blk_drewN ?_ _ | refine blk_drew ?_ | refine blk_alloc ?_ _)); exact BK103.out⟩, ba HB⟩
        ·rw [if_neg c14] at H
         have c14b0 : (t104 == 0) = false := beq_eq_false_iff_ne.mpr c14
         have c14b1 : (t104 != 0) = true := bne_iff_ne.mpr c14
         (first | rw [c14b0] | (simp only [i64_w, i32_w]; rw [c14b0]) | skip)
         have H' := Aside0.mk H
         clear H
         go_wp2
         go_meet
         case rel => exact ⟨_, (false), pr, H', ⟨by have := HK1.out; first | omega | exact Nat.le_refl _⟩, kg BK101, ⟨by (with_reducible repeat (first | refine blk_drewN ?_ _ | refine blk_drew ?_ | refine blk_alloc ?_ _)); refine blk_put (cs := #[.int .i64 ((rd_T53 l0 x14_1).f0), .int .i64 0]) ?_ 1 _ rfl; (with_reducible repeat (first | refine blk_drewN ?_ _ | refine blk_drew ?_ | refine blk_alloc ?_ _)); refine blk_put (cs := #[.int .i64 0, .int .i64 0]) ?_ 0 _ rfl; (with_reducible repeat (first | refine blk_drewN ?_ _ | refine blk_drew ?_ | refine blk_alloc ?_ _)); exact BK103.out⟩, ba HB⟩
       ·replace c13 := Bool.eq_false_iff.mpr c13
        subst c13
        rw [if_neg (show ¬ (false = true) by decide)] at H
        have H' := Aside0.mk H
        clear H
        go_wp2
        go_meet
        case rel => exact ⟨_, (false), pr, H', ⟨by have := HK1.out; first | omega | exact Nat.le_refl _⟩, kg BK101, ⟨by (with_reducible repeat (first | refine blk_drewN ?_ _ | refine blk_drew ?_ | refine blk_alloc ?_ _)); refine blk_put (cs := #[.int .i64 ((rd_T53 l0 x14_1).f0), .int .i64 0]) ?_ 1 _ rfl; (with_reducible repeat (first | refine blk_drewN ?_ _ | refine blk_drew ?_ | refine blk_alloc ?_ _)); refine blk_put (cs := #[.int .i64 0, .int .i64 0]) ?_ 0 _ rfl; (with_reducible repeat (first | refine blk_drewN ?_ _ | refine blk_drew ?_ | refine blk_alloc ?_ _)); exact BK103.out⟩, ba HB⟩
      case rest =>
       clear HC8
       try clear c1
       try clear p1
       try clear q1
       try clear hx1
       try clear p2
       try clear c4
       try clear c4b0
       try clear c5
       try clear c5b0
       try clear c6
       try clear c6b0
       try clear p6
       try clear c9
       try clear c10
       try clear p10
       try clear q10
       try clear hx10
       try clear c13
       try clear c14
       try clear c14b0
       try clear c14b1
       try clear hcz11_0
       try clear hcz11_1
       try clear hcz12_0
       try clear hcz12_1
       try clear hcz3_0
       try clear hcz3_1
       try clear hfz11_0
       try clear hfz11_1
       try clear hfz12_0
       try clear hfz12_1
       try clear hfz3_0
       try clear hfz3_1
       try clear hx102_0
       try clear hx102_1
       try clear p102
       try clear p2
       try clear q102
       obtain ⟨kq, x9_7, rfl, HA, HJ7, BK101, BK103, HB⟩ := hcut
       cases kq with
       | zero => exact absurd HA.out (by simp [record_Check.j1])
       | succ kj7 =>
        have H := HA.out
        clear HA
        simp only [record_Check.j1] at H
        have HC15 := Aside0.mk H
        clear H
        go_upto_if 39 with (fail)
        go_cut [10] (fun v10 wc => ∃ (kq : Nat) (x10_14 : Int), v10 = .int .i64 x10_14 ∧ Aside0 (record_Check.j2 kq l0 x14_1 t104 t105 x9_7 x10_14 l0 (l0.length : Int) x14_1 x102000_1 x102001_1 ((rd_T53 l0 x14_1).f0) ((rd_T53 l0 x14_1).f1) = some (r1, r2)) ∧ Aside0 (kq ≤ kj7) ∧ Aside0 (wc.heap[gb101]? = some (.cells #[.int .i64 x102000_1, .int .i64 x102001_1] 53 (0, 0))) ∧ Aside0 (wc.heap[gb103]? = some (.cells #[.int .i64 ((rd_T53 l0 x14_1).f0), .int .i64 ((rd_T53 l0 x14_1).f1)] 53 (0, 0))) ∧ Aside0 (Below w.heap.size w wc))
        case first =>
         have H := HC15.out
         clear HC15
         by_cases c16 : x9_7 = true
         ·subst c16
          rw [if_pos rfl] at H
          have H' := Aside0.mk H
          clear H
          go_wp2
          go_meet
          case rel => exact ⟨_, (0), pr, H', ⟨by have := HK1.out; have := HJ7.out; first | omega | exact Nat.le_refl _⟩, ka BK101, ka BK103, ba HB⟩
         ·replace c16 := Bool.eq_false_iff.mpr c16
          subst c16
          rw [if_neg (show ¬ (false = true) by decide)] at H
          have H' := Aside0.mk H
          clear H
          go_wp2
          go_meet
          case rel => exact ⟨_, (2419199), pr, H', ⟨by have := HK1.out; have := HJ7.out; first | omega | exact Nat.le_refl _⟩, ka BK101, ka BK103, ba HB⟩
        case rest =>
         clear HC15
         try clear c1
         try clear p1
         try clear q1
         try clear hx1
         try clear p2
         try clear c4
         try clear c4b0
         try clear c5
         try clear c5b0
         try clear c6
         try clear c6b0
         try clear p6
         try clear c9
         try clear c10
         try clear p10
         try clear q10
         try clear hx10
         try clear c13
         try clear c14
         try clear c14b0
         try clear c14b1
         try clear c16
         try clear hcz11_0
         try clear hcz11_1
         try clear hcz12_0
         try clear hcz12_1
         try clear hcz3_0
         try clear hcz3_1
         try clear hfz11_0
         try clear hfz11_1
         try clear hfz12_0
         try clear hfz12_1
         try clear hfz3_0
         try clear hfz3_1
         try clear hx102_0
         try clear hx102_1
         try clear p1
         try clear p10
         try clear p102
         try clear p2
         try clear p6
         try clear q1
         try clear q10
         try clear q102
         obtain ⟨kq, x10_14, rfl, HA, HJ14, BK101, BK103, HB⟩ := hcut
         cases kq with
         | zero => exact absurd HA.out (by simp [record_Check.j2])
         | succ kj14 =>
          have H := HA.out
          clear HA
          simp only [record_Check.j2] at H
          by_cases c17 : x14_1 > 200
          ·rw [if_pos c17] at H
           have c17b0 : decide (200 < x14_1) = true := decide_eq_true c17
           clear c17
           simp only [Option.some.injEq, Prod.mk.injEq] at H
           obtain ⟨rfl, rfl⟩ := H
           go_wp2
           go_ret2
           exact fi HB
          ·rw [if_neg c17] at H
           have c17b0 : decide (200 < x14_1) = false := decide_eq_false c17
           clear c17
           by_cases c18 : ((rd_T53 l0 x14_1).f0) < 0
           ·rw [if_pos c18] at H
            have c18b0 : decide (((rd_T53 l0 x14_1).f0) < 0) = true := decide_eq_true c18
            clear c18
            simp only [Option.some.injEq, Prod.mk.injEq] at H
            obtain ⟨rfl, rfl⟩ := H
            have hnb19 := NB103_101.out
            have hnc19 := NB101_103.out
            have hcz20_0 := bc BK103 0
            have hcz20_1 := bc BK103 1
            have hfz20_0 := bf BK103 0
            have hfz20_1 := bf BK103 1
            go_wp2
            go_ret2
            exact fi HB
           ·rw [if_neg c18] at H
            have c18b0 : decide (((rd_T53 l0 x14_1).f0) < 0) = false := decide_eq_false c18
            clear c18
            have HC21 := Aside0.mk H
            clear H
            have hnb22 := NB103_101.out
            have hnc22 := NB101_103.out
            have hcz23_0 := bc BK103 0
            have hcz23_1 := bc BK103 1
            have hfz23_0 := bf BK103 0
            have hfz23_1 := bf BK103 1
            go_upto_region 14 with (fail)
            go_cut [49] (fun v49 wc => ∃ (kq : Nat) (x49_20 : Bool), v49 = .bool x49_20 ∧ Aside0 (record_Check.j3 kq l0 x14_1 x10_14 l0 (l0.length : Int) x14_1 x49_20 x102000_1 x102001_1 ((rd_T53 l0 x14_1).f0) ((rd_T53 l0 x14_1).f1) = some (r1, r2)) ∧ Aside0 (kq ≤ kj14) ∧ Aside0 (wc.heap[gb101]? = some (.cells #[.int .i64 x102000_1, .int .i64 x102001_1] 53 (0, 0))) ∧ Aside0 (wc.heap[gb103]? = some (.cells #[.int .i64 ((rd_T53 l0 x14_1).f0), .int .i64 ((rd_T53 l0 x14_1).f1)] 53 (0, 0))) ∧ Aside0 (Below w.heap.size w wc))
            case first =>
             have H := HC21.out
             clear HC21
             by_cases c24 : x9_7 = true
             ·subst c24
              rw [if_pos rfl] at H
              have H' := Aside0.mk H
              clear H
              go_wp2
              go_meet
              case rel => exact ⟨_, (false), pr, H', ⟨by have := HK1.out; have := HJ7.out; have := HJ14.out; first | omega | exact Nat.le_refl _⟩, ka BK101, ka BK103, ba HB⟩
             ·replace c24 := Bool.eq_false_iff.mpr c24
              subst c24
              rw [if_neg (show ¬ (false = true) by decide)] at H
              by_cases c25 : t105 = true
              ·subst c25
               rw [if_pos rfl] at H
               by_cases c26 : t104 = 1
               ·rw [if_pos c26] at H
                have c26b0 : (t104 == 1) = true := beq_iff_eq.mpr c26
                have c26b1 : (t104 != 1) = false := bne_eq_false_iff_eq.mpr c26
                clear c26
                (first | rw [c26b0] | (simp only [i64_w, i32_w]; rw [c26b0]) | skip)
                have H' := Aside0.mk H
                clear H
                go_wp2
                go_meet
                case rel => exact ⟨_, (false), pr, H', ⟨by have := HK1.out; have := HJ7.out; have := HJ14.out; first | omega | exact Nat.le_refl _⟩, ka BK101, ka BK103, ba HB⟩
               ·rw [if_neg c26] at H
                have c26b0 : (t104 == 1) = false := beq_eq_false_iff_ne.mpr c26
                have c26b1 : (t104 != 1) = true := bne_iff_ne.mpr c26
                (first | rw [c26b0] | (simp only [i64_w, i32_w]; rw [c26b0]) | skip)
                have H' := Aside0.mk H
                clear H
                go_wp2
                go_meet
                case rel => exact ⟨_, ((t104 != (-1))), pr, H', ⟨by have := HK1.out; have := HJ7.out; have := HJ14.out; first | omega | exact Nat.le_refl _⟩, ka BK101, ka BK103, ba HB⟩
              ·replace c25 := Bool.eq_false_iff.mpr c25
               subst c25
               rw [if_neg (show ¬ (false = true) by decide)] at H
               have H' := Aside0.mk H
               clear H
               go_wp2
               go_meet
               case rel => exact ⟨_, (true), pr, H', ⟨by have := HK1.out; have := HJ7.out; have := HJ14.out; first | omega | exact Nat.le_refl _⟩, ka BK101, ka BK103, ba HB⟩
            case rest =>
             clear HC21
             try clear c1
             try clear p1
             try clear q1
             try clear hx1
             try clear c2
             try clear p2
             try clear c4
             try clear c4b0
             try clear c5
             try clear c5b0
             try clear c6
             try clear c6b0
             try clear p6
             try clear c9
             try clear c10
             try clear p10
             try clear q10
             try clear hx10
             try clear c13
             try clear c14
             try clear c14b0
             try clear c14b1
             try clear c16
             try clear c17
             try clear c17b0
             try clear c18
             try clear c18b0
             try clear c19
             try clear c22
             try clear c24
             try clear c25
             try clear c26
             try clear c26b0
             try clear c26b1
             try clear hcz11_0
             try clear hcz11_1
             try clear hcz12_0
             try clear hcz12_1
             try clear hcz20_0
             try clear hcz20_1
             try clear hcz23_0
             try clear hcz23_1
             try clear hcz3_0
             try clear hcz3_1
             try clear hfz11_0
             try clear hfz11_1
             try clear hfz12_0
             try clear hfz12_1
             try clear hfz20_0
             try clear hfz20_1
             try clear hfz23_0
             try clear hfz23_1
             try clear hfz3_0
             try clear hfz3_1
             try clear hx102_0
             try clear hx102_1
             try clear p1
             try clear p10
             try clear p102
             try clear p2
             try clear p6
             try clear q1
             try clear q10
             try clear q102
             obtain ⟨kq, x49_20, rfl, HA, HJ20, BK101, BK103, HB⟩ := hcut
             cases kq with
             | zero => exact absurd HA.out (by simp [record_Check.j3])
             | succ kj20 =>
              have H := HA.out
              clear HA
              simp only [record_Check.j3] at H
              by_cases c27 : x49_20 = true
              ·subst c27
               rw [if_pos rfl] at H
               simp only [Option.some.injEq, Prod.mk.injEq] at H
               obtain ⟨rfl, rfl⟩ := H
               go_wp2
               go_ret2
               exact fi HB
              ·replace c27 := Bool.eq_false_iff.mpr c27
               subst c27
               rw [if_neg (show ¬ (false = true) by decide)] at H
               by_cases c28 : x14_1 > 0
               ·rw [if_pos c28] at H
                have c28b0 : decide (0 < x14_1) = true := decide_eq_true c28
                clear c28
                by_cases c29 : (wrap64 (((rd_T53 l0 x14_1).f0) - x102000_1)) < x10_14
                ·rw [if_pos c29] at H
                 have c29b0 : decide ((wrap64 (((rd_T53 l0 x14_1).f0) - x102000_1)) < x10_14) = true := decide_eq_true c29
                 clear c29
                 simp only [Option.some.injEq, Prod.mk.injEq] at H
                 obtain ⟨rfl, rfl⟩ := H
                 have hnb30 := NB103_101.out
                 have hnc30 := NB101_103.out
                 have hcz31_0 := bc BK103 0
                 have hcz31_1 := bc BK103 1
                 have hfz31_0 := bf BK103 0
                 have hfz31_1 := bf BK103 1
                 have hcz32_0 := bc BK101 0
                 have hcz32_1 := bc BK101 1
                 have hfz32_0 := bf BK101 0
                 have hfz32_1 := bf BK101 1
                 go_wp2
                 go_ret2
                 exact fi HB
                ·rw [if_neg c29] at H
                 have c29b0 : decide ((wrap64 (((rd_T53 l0 x14_1).f0) - x102000_1)) < x10_14) = false := decide_eq_false c29
                 clear c29
                 have H' := Aside0.mk H
                 clear H
                 have hnb33 := NB103_101.out
                 have hnc33 := NB101_103.out
                 have hcz34_0 := bc BK103 0
                 have hcz34_1 := bc BK103 1
                 have hfz34_0 := bf BK103 0
                 have hfz34_1 := bf BK103 1
                 have hcz35_0 := bc BK101 0
                 have hcz35_1 := bc BK101 1
                 have hfz35_0 := bf BK101 0
                 have hfz35_1 := bf BK101 1
                 go_wp2
                 go_roundg kj20
                 case measure => have := HK1.out; have := HJ7.out; have := HJ14.out; have := HJ20.out; omega
                 case rel => exact ⟨(wrap64 (x14_1 + 1)), (((rd_T53 l0 x14_1).f0)), (((rd_T53 l0 x14_1).f1)), pr, H', ⟨by have := HK1.out; have := HJ7.out; have := HJ14.out; have := HJ20.out; omega⟩, ⟨by (with_reducible repeat (first | refine blk_drewN ?_ _ | refine blk_drew ?_ | refine blk_alloc ?_ _)); refine blk_put (cs := #[.int .i64 ((rd_T53 l0 x14_1).f0), .int .i64 x102001_1]) ?_ 1 _ rfl; (with_reducible repeat (first | refine blk_drewN ?_ _ | refine blk_drew ?_ | refine blk_alloc ?_ _)); refine blk_put (cs := #[.int .i64 x102000_1, .int .i64 x102001_1]) ?_ 0 _ rfl; (with_reducible repeat (first | refine blk_drewN ?_ _ | refine blk_drew ?_ | refine blk_alloc ?_ _)); exact BK101.out⟩, ba HB⟩
               ·rw [if_neg c28] at H
                have c28b0 : decide (0 < x14_1) = false := decide_eq_false c28
                clear c28
                have H' := Aside0.mk H
                clear H
                have hnb36 := NB103_101.out
                have hnc36 := NB101_103.out
                have hcz37_0 := bc BK103 0
                have hcz37_1 := bc BK103 1
                have hfz37_0 := bf BK103 0
                have hfz37_1 := bf BK103 1
                have hcz38_0 := bc BK101 0
                have hcz38_1 := bc BK101 1
                have hfz38_0 := bf BK101 0
                have hfz38_1 := bf BK101 1
                go_wp2
                go_roundg kj20
                case measure => have := HK1.out; have := HJ7.out; have := HJ14.out; have := HJ20.out; omega
                case rel => exact ⟨(wrap64 (x14_1 + 1)), (((rd_T53 l0 x14_1).f0)), (((rd_T53 l0 x14_1).f1)), pr, H', ⟨by have := HK1.out; have := HJ7.out; have := HJ14.out; have := HJ20.out; omega⟩, ⟨by (with_reducible repeat (first | refine blk_drewN ?_ _ | refine blk_drew ?_ | refine blk_alloc ?_ _)); refine blk_put (cs := #[.int .i64 ((rd_T53 l0 x14_1).f0), .int .i64 x102001_1]) ?_ 1 _ rfl; (with_reducible repeat (first | refine blk_drewN ?_ _ | refine blk_drew ?_ | refine blk_alloc ?_ _)); refine blk_put (cs := #[.int .i64 x102000_1, .int .i64 x102001_1]) ?_ 0 _ rfl; (with_reducible repeat (first | refine blk_drewN ?_ _ | refine blk_drew ?_ | refine blk_alloc ?_ _)); exact BK101.out⟩, ba HB⟩
     ·rw [if_neg c6] at H
      exact absurd H (by simp)
    ·rw [if_neg c5] at H
     exact absurd H (by simp)
   ·rw [if_neg c4] at H
    have c4b0 : decide (x14_1 < (l0.length : Int)) = false := decide_eq_false c4
    clear c4
    simp only [Option.some.injEq, Prod.mk.injEq] at H
    obtain ⟨rfl, rfl⟩ := H
    go_wp2
    go_ret2
    exact fi HB

/-! ### record_Right: function 66 -/
def record_Right.f (k : Nat) (l0 : List (S53)) : Option (Bool) := (record_Check.f k l0).bind fun bt106 => (some (bt106.2 == 0))
theorem record_Right.mono : ∀ a0 k, LeO (record_Right.f k a0) (record_Right.f (k + 1) a0) := by
 intro a0 k
 unfold record_Right.f
 repeat' first
   | (with_reducible exact record_Check.mono _ _)
   | (with_reducible exact LeO.refl _)
   | (with_reducible exact LeO.none _)
   | (with_reducible refine LeO.ite ?_ ?_)
   | (with_reducible refine LeO.bind ?_ (fun _ => ?_))
set_option maxHeartbeats 8000000 in
set_option maxRecDepth 100000 in
theorem record_Right.calls (k : Nat) (A0 : Option Addr) (c0 : Nat) (l0 : List (S53)) (r : Bool) (w : World) (hr0 : Kd.C k53 w A0 l0.length l0) (hc0 : l0.length ≤ c0) (h : record_Right.f k l0 = some r) :
  Calls Try.prog 66 #[.slice A0 l0.length c0] w fun e w' => e = .returned (.bool r) ∧ Below w.heap.size w w' := by
 have HR0 := Aside0.mk hr0
 have HC0 := Aside0.mk hc0
 clear hr0 hc0
 have HB := Aside0.mk (Below.refl w.heap.size w)
 have H : ((record_Check.f k l0).bind fun bt106 => (some (bt106.2 == 0))) = some r := h
 clear h
 obtain ⟨⟨t106, t107⟩, A2, H⟩ := bnd H
 try dsimp only at H
 obtain rfl := Option.some.inj H
 go_enter Try.func66, Try.ntmps66
 go_wp2_with (first | (refine gM (some 7) Try.func91 #[.slice A0 l0.length c0] (record_Check.calls k _ _ l0 t106 t107 _ ?side1 ?side2 A2.out) ?_; (case side1 => exact ca HR0); (case side2 => exact HC0.out); intro w3 hb; replace HB := bs HB hb; (try clear hb)))
 go_ret
 exact fi HB

/-! ### num_Div: function 57 -/
def num_Div.f (a0 : Int) (a1 : Int) : Option (Int × Int × Bool) := if a1 < 1 then (some (0, 0, false)) else (if a1 = 0 then (none) else (if (Int.tmod a0 a1) < 0 then (some (wrap64 ((wrap64 (Int.tdiv a0 a1)) - 1), wrap64 ((Int.tmod a0 a1) + a1), true)) else (some (wrap64 (Int.tdiv a0 a1), Int.tmod a0 a1, true))))
set_option maxHeartbeats 8000000 in
set_option maxRecDepth 100000 in
theorem num_Div.calls (a0 : Int) (a1 : Int) (r1 : Int) (r2 : Int) (r3 : Bool) (w : World) (h : num_Div.f a0 a1 = some (r1, r2, r3)) :
  Calls Try.prog 57 #[.int .i64 a0, .int .i64 a1] w fun e w' => e = .returned (.tuple #[.int .i64 r1, .int .i64 r2, .bool r3]) ∧ Drawn0 w w' := by
 have H : (if a1 < 1 then (some (0, 0, false)) else (if a1 = 0 then (none) else (if (Int.tmod a0 a1) < 0 then (some (wrap64 ((wrap64 (Int.tdiv a0 a1)) - 1), wrap64 ((Int.tmod a0 a1) + a1), true)) else (some (wrap64 (Int.tdiv a0 a1), Int.tmod a0 a1, true))))) = some (r1, r2, r3) := h
 clear h
 by_cases c3 : a1 < 1
 ·rw [if_pos c3] at H
  have c3b0 : decide (a1 < 1) = true := decide_eq_true c3
  clear c3
  simp only [Option.some.injEq, Prod.mk.injEq] at H
  obtain ⟨rfl, rfl, rfl⟩ := H
  go_enter Try.func57, Try.ntmps57
  go_wp2
  repeat (go_quiet (fail); try go_wp2)
  go_ret3
  exact fd
 ·rw [if_neg c3] at H
  have c3b0 : decide (a1 < 1) = false := decide_eq_false c3
  clear c3
  by_cases c4 : a1 = 0
  ·rw [if_pos c4] at H
   exact absurd H (by simp)
  ·rw [if_neg c4] at H
   have c4b0 : (a1 == 0) = false := beq_eq_false_iff_ne.mpr c4
   have c4b1 : (a1 != 0) = true := bne_iff_ne.mpr c4
   by_cases c5 : (Int.tmod a0 a1) < 0
   ·rw [if_pos c5] at H
    have c5b0 : decide ((Int.tmod a0 a1) < 0) = true := decide_eq_true c5
    clear c5
    simp only [Option.some.injEq, Prod.mk.injEq] at H
    obtain ⟨rfl, rfl, rfl⟩ := H
    go_enter Try.func57, Try.ntmps57
    go_wp2
    repeat (go_quiet (fail); try go_wp2)
    go_ret3
    exact fd
   ·rw [if_neg c5] at H
    have c5b0 : decide ((Int.tmod a0 a1) < 0) = false := decide_eq_false c5
    clear c5
    simp only [Option.some.injEq, Prod.mk.injEq] at H
    obtain ⟨rfl, rfl, rfl⟩ := H
    go_enter Try.func57, Try.ntmps57
    go_wp2
    repeat (go_quiet (fail); try go_wp2)
    go_ret3
    exact fd

/-! ### day_Date: function 114 -/
def day_Date.j0 : Nat → Int → Bool → Option (Int × Int × Int × Bool)
 | 0, _, _ => none
 | k + 1, x0, x15 => if x15 = true then (some (0, 0, 0, false)) else ((num_Div.f (wrap64 (x0 + 719468)) 146097).bind fun bt108 => (if (wrap64 ((wrap64 (Int.tdiv (wrap64 ((wrap64 (5 * (wrap64 (bt108.2.1 - (wrap64 ((wrap64 ((wrap64 (365 * (wrap64 (Int.tdiv (wrap64 ((wrap64 ((wrap64 (bt108.2.1 - (wrap64 (Int.tdiv bt108.2.1 1460)))) + (wrap64 (Int.tdiv bt108.2.1 36524)))) - (wrap64 (Int.tdiv bt108.2.1 146096)))) 365)))) + (wrap64 (Int.tdiv (wrap64 (Int.tdiv (wrap64 ((wrap64 ((wrap64 (bt108.2.1 - (wrap64 (Int.tdiv bt108.2.1 1460)))) + (wrap64 (Int.tdiv bt108.2.1 36524)))) - (wrap64 (Int.tdiv bt108.2.1 146096)))) 365)) 4)))) - (wrap64 (Int.tdiv (wrap64 (Int.tdiv (wrap64 ((wrap64 ((wrap64 (bt108.2.1 - (wrap64 (Int.tdiv bt108.2.1 1460)))) + (wrap64 (Int.tdiv bt108.2.1 36524)))) - (wrap64 (Int.tdiv bt108.2.1 146096)))) 365)) 100)))))))) + 2)) 153)) + 3)) > 12 then (some (wrap64 ((wrap64 (400 * bt108.1)) + (wrap64 ((wrap64 (Int.tdiv (wrap64 ((wrap64 ((wrap64 (bt108.2.1 - (wrap64 (Int.tdiv bt108.2.1 1460)))) + (wrap64 (Int.tdiv bt108.2.1 36524)))) - (wrap64 (Int.tdiv bt108.2.1 146096)))) 365)) + 1))), wrap64 ((wrap64 ((wrap64 (Int.tdiv (wrap64 ((wrap64 (5 * (wrap64 (bt108.2.1 - (wrap64 ((wrap64 ((wrap64 (365 * (wrap64 (Int.tdiv (wrap64 ((wrap64 ((wrap64 (bt108.2.1 - (wrap64 (Int.tdiv bt108.2.1 1460)))) + (wrap64 (Int.tdiv bt108.2.1 36524)))) - (wrap64 (Int.tdiv bt108.2.1 146096)))) 365)))) + (wrap64 (Int.tdiv (wrap64 (Int.tdiv (wrap64 ((wrap64 ((wrap64 (bt108.2.1 - (wrap64 (Int.tdiv bt108.2.1 1460)))) + (wrap64 (Int.tdiv bt108.2.1 36524)))) - (wrap64 (Int.tdiv bt108.2.1 146096)))) 365)) 4)))) - (wrap64 (Int.tdiv (wrap64 (Int.tdiv (wrap64 ((wrap64 ((wrap64 (bt108.2.1 - (wrap64 (Int.tdiv bt108.2.1 1460)))) + (wrap64 (Int.tdiv bt108.2.1 36524)))) - (wrap64 (Int.tdiv bt108.2.1 146096)))) 365)) 100)))))))) + 2)) 153)) + 3)) - 12), wrap64 ((wrap64 ((wrap64 (bt108.2.1 - (wrap64 ((wrap64 ((wrap64 (365 * (wrap64 (Int.tdiv (wrap64 ((wrap64 ((wrap64 (bt108.2.1 - (wrap64 (Int.tdiv bt108.2.1 1460)))) + (wrap64 (Int.tdiv bt108.2.1 36524)))) - (wrap64 (Int.tdiv bt108.2.1 146096)))) 365)))) + (wrap64 (Int.tdiv (wrap64 (Int.tdiv (wrap64 ((wrap64 ((wrap64 (bt108.2.1 - (wrap64 (Int.tdiv bt108.2.1 1460)))) + (wrap64 (Int.tdiv bt108.2.1 36524)))) - (wrap64 (Int.tdiv bt108.2.1 146096)))) 365)) 4)))) - (wrap64 (Int.tdiv (wrap64 (Int.tdiv (wrap64 ((wrap64 ((wrap64 (bt108.2.1 - (wrap64 (Int.tdiv bt108.2.1 1460)))) + (wrap64 (Int.tdiv bt108.2.1 36524)))) - (wrap64 (Int.tdiv bt108.2.1 146096)))) 365)) 100)))))) - (wrap64 (Int.tdiv (wrap64 ((wrap64 (153 * (wrap64 (Int.tdiv (wrap64 ((wrap64 (5 * (wrap64 (bt108.2.1 - (wrap64 ((wrap64 ((wrap64 (365 * (wrap64 (Int.tdiv (wrap64 ((wrap64 ((wrap64 (bt108.2.1 - (wrap64 (Int.tdiv bt108.2.1 1460)))) + (wrap64 (Int.tdiv bt108.2.1 36524)))) - (wrap64 (Int.tdiv bt108.2.1 146096)))) 365)))) + (wrap64 (Int.tdiv (wrap64 (Int.tdiv (wrap64 ((wrap64 ((wrap64 (bt108.2.1 - (wrap64 (Int.tdiv bt108.2.1 1460)))) + (wrap64 (Int.tdiv bt108.2.1 36524)))) - (wrap64 (Int.tdiv bt108.2.1 146096)))) 365)) 4)))) - (wrap64 (Int.tdiv (wrap64 (Int.tdiv (wrap64 ((wrap64 ((wrap64 (bt108.2.1 - (wrap64 (Int.tdiv bt108.2.1 1460)))) + (wrap64 (Int.tdiv bt108.2.1 36524)))) - (wrap64 (Int.tdiv bt108.2.1 146096)))) 365)) 100)))))))) + 2)) 153)))) + 2)) 5)))) + 1), true)) else (some (wrap64 ((wrap64 (400 * bt108.1)) + (wrap64 (Int.tdiv (wrap64 ((wrap64 ((wrap64 (bt108.2.1 - (wrap64 (Int.tdiv bt108.2.1 1460)))) + (wrap64 (Int.tdiv bt108.2.1 36524)))) - (wrap64 (Int.tdiv bt108.2.1 146096)))) 365))), wrap64 ((wrap64 (Int.tdiv (wrap64 ((wrap64 (5 * (wrap64 (bt108.2.1 - (wrap64 ((wrap64 ((wrap64 (365 * (wrap64 (Int.tdiv (wrap64 ((wrap64 ((wrap64 (bt108.2.1 - (wrap64 (Int.tdiv bt108.2.1 1460)))) + (wrap64 (Int.tdiv bt108.2.1 36524)))) - (wrap64 (Int.tdiv bt108.2.1 146096)))) 365)))) + (wrap64 (Int.tdiv (wrap64 (Int.tdiv (wrap64 ((wrap64 ((wrap64 (bt108.2.1 - (wrap64 (Int.tdiv bt108.2.1 1460)))) + (wrap64 (Int.tdiv bt108.2.1 36524)))) - (wrap64 (Int.tdiv bt108.2.1 146096)))) 365)) 4)))) - (wrap64 (Int.tdiv (wrap64 (Int.tdiv (wrap64 ((wrap64 ((wrap64 (bt108.2.1 - (wrap64 (Int.tdiv bt108.2.1 1460)))) + (wrap64 (Int.tdiv bt108.2.1 36524)))) - (wrap64 (Int.tdiv bt108.2.1 146096)))) 365)) 100)))))))) + 2)) 153)) + 3), wrap64 ((wrap64 ((wrap64 (bt108.2.1 - (wrap64 ((wrap64 ((wrap64 (365 * (wrap64 (Int.tdiv (wrap64 ((wrap64 ((wrap64 (bt108.2.1 - (wrap64 (Int.tdiv bt108.2.1 1460)))) + (wrap64 (Int.tdiv bt108.2.1 36524)))) - (wrap64 (Int.tdiv bt108.2.1 146096)))) 365)))) + (wrap64 (Int.tdiv (wrap64 (Int.tdiv (wrap64 ((wrap64 ((wrap64 (bt108.2.1 - (wrap64 (Int.tdiv bt108.2.1 1460)))) + (wrap64 (Int.tdiv bt108.2.1 36524)))) - (wrap64 (Int.tdiv bt108.2.1 146096)))) 365)) 4)))) - (wrap64 (Int.tdiv (wrap64 (Int.tdiv (wrap64 ((wrap64 ((wrap64 (bt108.2.1 - (wrap64 (Int.tdiv bt108.2.1 1460)))) + (wrap64 (Int.tdiv bt108.2.1 36524)))) - (wrap64 (Int.tdiv bt108.2.1 146096)))) 365)) 100)))))) - (wrap64 (Int.tdiv (wrap64 ((wrap64 (153 * (wrap64 (Int.tdiv (wrap64 ((wrap64 (5 * (wrap64 (bt108.2.1 - (wrap64 ((wrap64 ((wrap64 (365 * (wrap64 (Int.tdiv (wrap64 ((wrap64 ((wrap64 (bt108.2.1 - (wrap64 (Int.tdiv bt108.2.1 1460)))) + (wrap64 (Int.tdiv bt108.2.1 36524)))) - (wrap64 (Int.tdiv bt108.2.1 146096)))) 365)))) + (wrap64 (Int.tdiv (wrap64 (Int.tdiv (wrap64 ((wrap64 ((wrap64 (bt108.2.1 - (wrap64 (Int.tdiv bt108.2.1 1460)))) + (wrap64 (Int.tdiv bt108.2.1 36524)))) - (wrap64 (Int.tdiv bt108.2.1 146096)))) 365)) 4)))) - (wrap64 (Int.tdiv (wrap64 (Int.tdiv (wrap64 ((wrap64 ((wrap64 (bt108.2.1 - (wrap64 (Int.tdiv bt108.2.1 1460)))) + (wrap64 (Int.tdiv bt108.2.1 36524)))) - (wrap64 (Int.tdiv bt108.2.1 146096)))) 365)) 100)))))))) + 2)) 153)))) + 2)) 5)))) + 1), true))))
def day_Date.f (k : Nat) (a0 : Int) : Option (Int × Int × Int × Bool) := if a0 < (-719162) then (day_Date.j0 k a0 true) else (day_Date.j0 k a0 (decide (a0 > 2932896)))
theorem day_Date.mono_l : ∀ k, (∀ y0 y1, LeO (day_Date.j0 k y0 y1) (day_Date.j0 (k + 1) y0 y1))
 | 0 => fun _ _ r h => by simp [day_Date.j0] at h
 | k + 1 => by
  have ih0 := day_Date.mono_l k
  ·intro y0 y1
   unfold day_Date.j0
   repeat' first
   | (with_reducible exact ih0 _ _)
   | (with_reducible exact LeO.refl _)
   | (with_reducible exact LeO.none _)
   | (with_reducible refine LeO.ite ?_ ?_)
   | (with_reducible refine LeO.bind ?_ (fun _ => ?_))
theorem day_Date.mono : ∀ a0 k, LeO (day_Date.f k a0) (day_Date.f (k + 1) a0) := by
 intro a0 k
 have ih0 := day_Date.mono_l k
 unfold day_Date.f
 repeat' first
   | (with_reducible exact ih0 _ _)
   | (with_reducible exact LeO.refl _)
   | (with_reducible exact LeO.none _)
   | (with_reducible refine LeO.ite ?_ ?_)
   | (with_reducible refine LeO.bind ?_ (fun _ => ?_))
set_option maxHeartbeats 8000000 in
set_option maxRecDepth 100000 in
theorem day_Date.calls (k : Nat) (a0 : Int) (r1 : Int) (r2 : Int) (r3 : Int) (r4 : Bool) (w : World) (h : day_Date.f k a0 = some (r1, r2, r3, r4)) :
  Calls Try.prog 114 #[.int .i64 a0] w fun e w' => e = .returned (.tuple #[.int .i64 r1, .int .i64 r2, .int .i64 r3, .bool r4]) ∧ Drawn0 w w' := by
 have H : (if a0 < (-719162) then (day_Date.j0 k a0 true) else (day_Date.j0 k a0 (decide (a0 > 2932896)))) = some (r1, r2, r3, r4) := h
 clear h
 have HC2 := Aside0.mk H
 clear H
 go_enter Try.func114, Try.ntmps114
 go_upto_region 1 with (fail)
 go_cut [15] (fun v15 wc => ∃ (kq : Nat) (x15_1 : Bool), v15 = .bool x15_1 ∧ Aside0 (day_Date.j0 kq a0 x15_1 = some (r1, r2, r3, r4)) ∧ Aside0 (kq ≤ k) ∧ Drawn0 w wc)
 case first =>
  have H := HC2.out
  clear HC2
  by_cases c3 : a0 < (-719162)
  ·rw [if_pos c3] at H
   have c3b0 : decide (a0 < (-719162)) = true := decide_eq_true c3
   clear c3
   (first | rw [c3b0] | (simp only [i64_w, i32_w]; rw [c3b0]) | skip)
   have H' := Aside0.mk H
   clear H
   go_wp2
   go_meet
   case rel => exact ⟨_, (true), pr, H', om, by repeat (first | exact Drawn0.refl _ | apply Drawn0.step)⟩
  ·rw [if_neg c3] at H
   have c3b0 : decide (a0 < (-719162)) = false := decide_eq_false c3
   clear c3
   (first | rw [c3b0] | (simp only [i64_w, i32_w]; rw [c3b0]) | skip)
   have H' := Aside0.mk H
   clear H
   go_wp2
   go_meet
   case rel => exact ⟨_, (decide (a0 > 2932896)), pr, H', om, by repeat (first | exact Drawn0.refl _ | apply Drawn0.step)⟩
 case rest =>
  clear HC2
  try clear c1
  try clear p2
  try clear c3
  try clear c3b0
  obtain ⟨kq, x15_1, rfl, HA, HJ1, ⟨mc1, rfl⟩⟩ := hcut
  cases kq with
  | zero => exact absurd HA.out (by simp [day_Date.j0])
  | succ kj1 =>
   have H := HA.out
   clear HA
   simp only [day_Date.j0] at H
   by_cases c4 : x15_1 = true
   ·subst c4
    rw [if_pos rfl] at H
    simp only [Option.some.injEq, Prod.mk.injEq] at H
    obtain ⟨rfl, rfl, rfl, rfl⟩ := H
    go_wp2
    refine bodyPost_ret (results_list (rs := [.tmp 2, .tmp 3, .tmp 4, .tmp 5]) rfl (by simp) (.tmp (.tmp (.tmp (.tmp .nil))))) rfl ?_
    exact fd
   ·replace c4 := Bool.eq_false_iff.mpr c4
    subst c4
    rw [if_neg (show ¬ (false = true) by decide)] at H
    obtain ⟨⟨t108, t109, t110⟩, A5, H⟩ := bnd H
    try dsimp only at H
    by_cases c6 : (wrap64 ((wrap64 (Int.tdiv (wrap64 ((wrap64 (5 * (wrap64 (t109 - (wrap64 ((wrap64 ((wrap64 (365 * (wrap64 (Int.tdiv (wrap64 ((wrap64 ((wrap64 (t109 - (wrap64 (Int.tdiv t109 1460)))) + (wrap64 (Int.tdiv t109 36524)))) - (wrap64 (Int.tdiv t109 146096)))) 365)))) + (wrap64 (Int.tdiv (wrap64 (Int.tdiv (wrap64 ((wrap64 ((wrap64 (t109 - (wrap64 (Int.tdiv t109 1460)))) + (wrap64 (Int.tdiv t109 36524)))) - (wrap64 (Int.tdiv t109 146096)))) 365)) 4)))) - (wrap64 (Int.tdiv (wrap64 (Int.tdiv (wrap64 ((wrap64 ((wrap64 (t109 - (wrap64 (Int.tdiv t109 1460)))) + (wrap64 (Int.tdiv t109 36524)))) - (wrap64 (Int.tdiv t109 146096)))) 365)) 100)))))))) + 2)) 153)) + 3)) > 12
    ·rw [if_pos c6] at H
     have c6b0 : decide (12 < (wrap64 ((wrap64 (Int.tdiv (wrap64 ((wrap64 (5 * (wrap64 (t109 - (wrap64 ((wrap64 ((wrap64 (365 * (wrap64 (Int.tdiv (wrap64 ((wrap64 ((wrap64 (t109 - (wrap64 (Int.tdiv t109 1460)))) + (wrap64 (Int.tdiv t109 36524)))) - (wrap64 (Int.tdiv t109 146096)))) 365)))) + (wrap64 (Int.tdiv (wrap64 (Int.tdiv (wrap64 ((wrap64 ((wrap64 (t109 - (wrap64 (Int.tdiv t109 1460)))) + (wrap64 (Int.tdiv t109 36524)))) - (wrap64 (Int.tdiv t109 146096)))) 365)) 4)))) - (wrap64 (Int.tdiv (wrap64 (Int.tdiv (wrap64 ((wrap64 ((wrap64 (t109 - (wrap64 (Int.tdiv t109 1460)))) + (wrap64 (Int.tdiv t109 36524)))) - (wrap64 (Int.tdiv t109 146096)))) 365)) 100)))))))) + 2)) 153)) + 3))) = true := decide_eq_true c6
     clear c6
     simp only [Option.some.injEq, Prod.mk.injEq] at H
     obtain ⟨rfl, rfl, rfl, rfl⟩ := H
     go_wp2_with (first | (refine gN (some 19) Try.func57 #[.int .i64 (wrap64 (a0 + 719468)), .int .i64 146097] (num_Div.calls (wrap64 (a0 + 719468)) 146097 t108 t109 t110 _ A5.out) ?_; intro nd))
     refine bodyPost_ret (results_list (rs := [.tmp 2, .tmp 3, .tmp 4, .tmp 5]) rfl (by simp) (.tmp (.tmp (.tmp (.tmp .nil))))) rfl ?_
     exact fd
    ·rw [if_neg c6] at H
     have c6b0 : decide (12 < (wrap64 ((wrap64 (Int.tdiv (wrap64 ((wrap64 (5 * (wrap64 (t109 - (wrap64 ((wrap64 ((wrap64 (365 * (wrap64 (Int.tdiv (wrap64 ((wrap64 ((wrap64 (t109 - (wrap64 (Int.tdiv t109 1460)))) + (wrap64 (Int.tdiv t109 36524)))) - (wrap64 (Int.tdiv t109 146096)))) 365)))) + (wrap64 (Int.tdiv (wrap64 (Int.tdiv (wrap64 ((wrap64 ((wrap64 (t109 - (wrap64 (Int.tdiv t109 1460)))) + (wrap64 (Int.tdiv t109 36524)))) - (wrap64 (Int.tdiv t109 146096)))) 365)) 4)))) - (wrap64 (Int.tdiv (wrap64 (Int.tdiv (wrap64 ((wrap64 ((wrap64 (t109 - (wrap64 (Int.tdiv t109 1460)))) + (wrap64 (Int.tdiv t109 36524)))) - (wrap64 (Int.tdiv t109 146096)))) 365)) 100)))))))) + 2)) 153)) + 3))) = false := decide_eq_false c6
     clear c6
     simp only [Option.some.injEq, Prod.mk.injEq] at H
     obtain ⟨rfl, rfl, rfl, rfl⟩ := H
     go_wp2_with (first | (refine gN (some 19) Try.func57 #[.int .i64 (wrap64 (a0 + 719468)), .int .i64 146097] (num_Div.calls (wrap64 (a0 + 719468)) 146097 t108 t109 t110 _ A5.out) ?_; intro nd))
     refine bodyPost_ret (results_list (rs := [.tmp 2, .tmp 3, .tmp 4, .tmp 5]) rfl (by simp) (.tmp (.tmp (.tmp (.tmp .nil))))) rfl ?_
     exact fd

/-! ### day_Leap: function 117 -/
def day_Leap.f (a0 : Int) : Option (Bool) := if (Int.tmod a0 4) = 0 then (if (Int.tmod a0 100) = 0 then (some ((Int.tmod a0 400) == 0)) else (some true)) else (some false)
set_option maxHeartbeats 8000000 in
set_option maxRecDepth 100000 in
theorem day_Leap.calls (a0 : Int) (r : Bool) (w : World) (h : day_Leap.f a0 = some r) :
  Calls Try.prog 117 #[.int .i64 a0] w fun e w' => e = .returned (.bool r) ∧ Drawn0 w w' := by
 have H : (if (Int.tmod a0 4) = 0 then (if (Int.tmod a0 100) = 0 then (some ((Int.tmod a0 400) == 0)) else (some true)) else (some false)) = some r := h
 clear h
 by_cases c2 : (Int.tmod a0 4) = 0
 ·rw [if_pos c2] at H
  have c2b0 : ((Int.tmod a0 4) == 0) = true := beq_iff_eq.mpr c2
  have c2b1 : ((Int.tmod a0 4) != 0) = false := bne_eq_false_iff_eq.mpr c2
  clear c2
  by_cases c3 : (Int.tmod a0 100) = 0
  ·rw [if_pos c3] at H
   have c3b0 : ((Int.tmod a0 100) == 0) = true := beq_iff_eq.mpr c3
   have c3b1 : ((Int.tmod a0 100) != 0) = false := bne_eq_false_iff_eq.mpr c3
   clear c3
   obtain rfl := Option.some.inj H
   go_enter Try.func117, Try.ntmps117
   go_wp2
   go_ret
   exact fd
  ·rw [if_neg c3] at H
   have c3b0 : ((Int.tmod a0 100) == 0) = false := beq_eq_false_iff_ne.mpr c3
   have c3b1 : ((Int.tmod a0 100) != 0) = true := bne_iff_ne.mpr c3
   obtain rfl := Option.some.inj H
   go_enter Try.func117, Try.ntmps117
   go_wp2
   go_ret
   exact fd
 ·rw [if_neg c2] at H
  have c2b0 : ((Int.tmod a0 4) == 0) = false := beq_eq_false_iff_ne.mpr c2
  have c2b1 : ((Int.tmod a0 4) != 0) = true := bne_iff_ne.mpr c2
  obtain rfl := Option.some.inj H
  go_enter Try.func117, Try.ntmps117
  go_wp2
  go_ret
  exact fd

end Go.Proofs.Ythoigncoojcanaa.PAll
