-- Written for this claim by wip/tools of this repo (after the kit's print; own contracts laid in).
import Derived.Test.YtlfnkamhokfeaaaPAllx0
import Derived.Test.YtlfnkamhokfeaaaPAllx1
import Derived.Test.YtlfnkamhokfeaaaPAllx2
import Derived.Test.YtlfnkamhokfeaaaPAllx4
namespace Go.Proofs.Ytlfnkamhokfeaaa.PAll
open Go.RowKit Go.Proofs.YtlfnkamhokfeaaaW.PrintWords Go.Proofs.YtlfnkamhokfeaaaW.PrintLast Go.Proofs.YtlfnkamhokfeaaaW.PrintMore
attribute [local go_sem] max2_int min2_int max_two min_two max_three min_three max_four min_four   -- for this text's walks alone
set_option linter.unusedVariables false
set_option linter.unusedSimpArgs false

/-! ### num_Add: function 30 -/
def num_Add.f (a0 : Int) (a1 : Int) : Option (Int × Bool) := if ((decide ((wrap64 (a0 + a1)) > a0)) != (decide (a1 > 0))) = true then (if a1 = 0 then (some (wrap64 (a0 + a1), true)) else (some (0, false))) else (some (wrap64 (a0 + a1), true))
set_option maxHeartbeats 8000000 in
set_option maxRecDepth 100000 in
theorem num_Add.calls (a0 : Int) (a1 : Int) (r1 : Int) (r2 : Bool) (w : World) (h : num_Add.f a0 a1 = some (r1, r2)) :
    Calls Try.prog 30 #[.int .i64 a0, .int .i64 a1] w fun e w' => e = .returned (.tuple #[.int .i64 r1, .bool r2]) ∧ Drawn0 w w' := by
  have H : (if ((decide ((wrap64 (a0 + a1)) > a0)) != (decide (a1 > 0))) = true then (if a1 = 0 then (some (wrap64 (a0 + a1), true)) else (some (0, false))) else (some (wrap64 (a0 + a1), true))) = some (r1, r2) := h
  clear h
  by_cases c3 : ((decide ((wrap64 (a0 + a1)) > a0)) != (decide (a1 > 0))) = true
  · rw [if_pos c3] at H
    have c3b0 : ((decide ((wrap64 (a0 + a1)) > a0)) != (decide (a1 > 0))) = true := c3
    (try (have c3b1 : decide ((decide ((wrap64 (a0 + a1)) > a0)) = (decide (a1 > 0))) = false := by first | (simp; done) | (simp at c3; done) | simpa using c3))
    (try (have c3b2 : ((decide ((wrap64 (a0 + a1)) > a0)) == (decide (a1 > 0))) = false := by first | (simp; done) | (simp at c3; done) | simpa using c3))
    (try (have c3b3 : ¬ ((decide ((wrap64 (a0 + a1)) > a0)) = (decide (a1 > 0))) := by first | (simp; done) | (simp at c3; done) | simpa using c3))
    clear c3
    by_cases c4 : a1 = 0
    · rw [if_pos c4] at H
      have c4b0 : (a1 == 0) = true := beq_iff_eq.mpr c4
      have c4b1 : (a1 != 0) = false := bne_eq_false_iff_eq.mpr c4
      clear c4
      simp only [Option.some.injEq, Prod.mk.injEq] at H
      obtain ⟨rfl, rfl⟩ := H
      go_enter Try.func30, Try.ntmps30
      go_wp2
      go_ret2
      exact ⟨by first | rfl | (simp; done) | (simp [*]; done), by repeat (first | exact Drawn0.refl _ | apply Drawn0.step)⟩
    · rw [if_neg c4] at H
      have c4b0 : (a1 == 0) = false := beq_eq_false_iff_ne.mpr c4
      have c4b1 : (a1 != 0) = true := bne_iff_ne.mpr c4
      simp only [Option.some.injEq, Prod.mk.injEq] at H
      obtain ⟨rfl, rfl⟩ := H
      go_enter Try.func30, Try.ntmps30
      go_wp2
      go_ret2
      exact ⟨by first | rfl | (simp; done) | (simp [*]; done), by repeat (first | exact Drawn0.refl _ | apply Drawn0.step)⟩
  · rw [if_neg c3] at H
    have c3b0 : ((decide ((wrap64 (a0 + a1)) > a0)) != (decide (a1 > 0))) = false := by first | (simp; done) | (simp at c3; done) | simpa using c3
    (try (have c3b1 : decide ((decide ((wrap64 (a0 + a1)) > a0)) = (decide (a1 > 0))) = true := by first | (simp; done) | (simp at c3; done) | simpa using c3))
    (try (have c3b2 : ((decide ((wrap64 (a0 + a1)) > a0)) == (decide (a1 > 0))) = true := by first | (simp; done) | (simp at c3; done) | simpa using c3))
    clear c3
    simp only [Option.some.injEq, Prod.mk.injEq] at H
    obtain ⟨rfl, rfl⟩ := H
    go_enter Try.func30, Try.ntmps30
    go_wp2
    go_ret2
    exact ⟨by first | rfl | (simp; done) | (simp [*]; done), by repeat (first | exact Drawn0.refl _ | apply Drawn0.step)⟩

-- NOT PRINTED: function 46 (sort_Search)

/-! ### record_Sum: function 33 -/
-- by hand: wip/hand
/-- are records in order? -/
def record_Sum.Asc (l : List S40) : Prop := l.Pairwise (fun x y => x.f0 ≤ y.f0)
instance (l : List S40) : Decidable (record_Sum.Asc l) := by unfold record_Sum.Asc; exact inferInstance
def record_Sum.f (k : Nat) (l0 : List (S40)) (a1 : Int) : Option (Int) := (record_leaps.f k l0).bind fun l =>
  if l.length < 4611686018427387904 ∧ record_Sum.Asc l then some (if l.countP (fun y => !decide (y.f0 > a1)) = 0 then 0 else (l.getD (l.countP (fun y => !decide (y.f0 > a1)) - 1) z40).f1) else none
theorem record_Sum.mono : ∀ a0 a1 k, LeO (record_Sum.f k a0 a1) (record_Sum.f (k + 1) a0 a1) := by
  intro a0 a1 k
  unfold record_Sum.f
  exact LeO.bind (record_leaps.mono _ _) (fun _ => LeO.refl _)
set_option maxHeartbeats 2000000 in
theorem record_Sum.clo (gt gd n c : Nat) (ad : Addr) (a1 x : Int) (i : Nat) (W : World) (hi : i < n)
    (h0 : W.cell? ⟨gt, 0, none⟩ = some (.slice (some ad) n c)) (hd : W.cell? ⟨gd, 0, none⟩ = some (.int .i64 a1)) (hc : W.cell? (ad.add (i * 2)) = some (.int .i64 x)) :
    Calls Try.prog 47 (#[.int .i64 i] ++ #[.pointer (some ⟨gt, 0, none⟩), .pointer (some ⟨gd, 0, none⟩)]) W fun e w' => e = .returned (.bool (decide (x > a1))) ∧ ∃ q, w' = W.drewN q := by
  have hiz : (i : Int) < (n : Int) := by omega
  have hu2 := Try.underlying40
  go_enter Try.func47, Try.ntmps47
  go_wp2
  go_region
  all_goals go_wp2
  all_goals go_ret
  all_goals exact ⟨by first | rfl | simp, 1, rfl⟩
theorem record_Sum.asc_at {l : List S40} (h : record_Sum.Asc l) (a b : Nat) (hab : a ≤ b) (hb : b < l.length) : (l.getD a z40).f0 ≤ (l.getD b z40).f0 := by
  have ha : a < l.length := by omega
  simp only [List.getD_eq_getElem?_getD, List.getElem?_eq_getElem ha, List.getElem?_eq_getElem hb, Option.getD_some]
  by_cases e : a = b
  · subst e; exact Int.le_refl _
  · exact List.pairwise_iff_getElem.mp h a b ha hb (by omega)
theorem record_Sum.count (l : List S40) (p : S40 → Bool) : (List.range l.length).countP (fun i => p (l.getD i z40)) = l.countP p := by
  have : l = (List.range l.length).map (fun i => l.getD i z40) := by
    apply List.ext_getElem
    · simp
    · intro i h1 h2; simp [h1]
  conv => rhs; rw [this, List.countP_map]
  rfl
open Go.Shelf Go.Sort in
theorem record_Sum.search (g0 g1 : Nat) (A : Option Addr) (c : Nat) (l : List (S40)) (a1 : Int) (W : World) (hC : Kd.C k40 W A l.length l) (hsz : l.length < 4611686018427387904) (hasc : record_Sum.Asc l)
    (h0 : W.cell? ⟨g0, 0, none⟩ = some (.slice A l.length c)) (h1 : W.cell? ⟨g1, 0, none⟩ = some (.int .i64 a1)) :
    Calls Try.prog 46 #[.int .i64 (l.length : Nat), .func (.func 47) #[] #[.pointer (some ⟨g0, 0, none⟩), .pointer (some ⟨g1, 0, none⟩)]] W
      fun e w' => e = .returned (.int .i64 ((l.countP (fun y => !decide (y.f0 > a1)) : Nat) : Int)) ∧ Below W.heap.size W w' := by
  have eg : ∀ args w, (callFunc 47 args).run Try.prog w = .ok (.enter 47 args) w := enters_of Try.func47 (by kernel_rfl) rfl
  have b0 := World.block_lt_of_cell? W _ h0
  have b1 := World.block_lt_of_cell? W _ h1
  have hS := Any.sort_Search Try.laysSearch 47 #[.pointer (some ⟨g0, 0, none⟩), .pointer (some ⟨g1, 0, none⟩)] l.length (fun i => decide ((l.getD i z40).f0 > a1)) W eg hsz
    (fun m os i hi => by
      obtain ⟨ad, rfl, hx, _⟩ := at_T40 hC (i : Int) (by omega) (by omega)
      have hx' : W.cell? (ad.add (i * 2)) = some (.int .i64 (l.getD i z40).f0) := by simpa [rd_T40] using hx
      have hlt := World.block_lt_of_cell? W _ hx'
      refine (record_Sum.clo g0 g1 l.length c ad a1 _ i _ hi (cell_grown b0 h0 m os) (cell_grown b1 h1 m os) (cell_grown hlt hx' m os)).mono ?_
      rintro _ _ ⟨he, q, hq⟩
      exact ⟨he, q, #[], by rw [hq, grow_empty]⟩)
    (fun a b hab hb hp => by have := record_Sum.asc_at hasc a b hab hb; simp only [decide_eq_true_eq] at hp ⊢; omega)
  rw [record_Sum.count l (fun y => !decide (y.f0 > a1))] at hS
  exact hS.mono fun e w' ⟨he, q, os, hw⟩ => ⟨he, by rw [hw]; exact below_grown_sl W.heap.size W q os (Nat.le_refl _)⟩
theorem record_Sum.mid (w W1 w2 : World) (A0 A : Option Addr) (c0 c n0 : Nat) (a1 : Int) (l : List (S40)) (HW : W1 = (w.alloc (.cells #[.slice A0 n0 c0] 22)).alloc (.cells #[.int .i64 a1] 3))
    (HB2 : Below W1.heap.size W1 w2) (HF : Kd.F k40 w2 (fun k_ => k_ < w.heap.size ∨ W1.heap.size ≤ k_) A l.length l) :
    ∃ W3, W3 = w2.setCell ⟨w.heap.size, 0, none⟩ (.slice A l.length c) ∧ Kd.F k40 W3 (fun k_ => k_ < w.heap.size ∨ W1.heap.size ≤ k_) A l.length l ∧
      W3.heap[w.heap.size]? = some (.cells #[.slice A l.length c] 22 (0, 0)) ∧ W3.heap[w.heap.size + 1]? = some (.cells #[.int .i64 a1] 3 (0, 0)) ∧ Below w.heap.size w W3 := by
  have hsize : W1.heap.size = w.heap.size + 1 + 1 := by rw [HW]; simp
  have b0 : W1.heap[w.heap.size]? = some (.cells #[.slice A0 n0 c0] 22 (0, 0)) := by rw [HW]; exact blk_alloc (blk_new _ _) _
  have b1 : W1.heap[w.heap.size + 1]? = some (.cells #[.int .i64 a1] 3 (0, 0)) := by
    rw [HW]
    have := blk_new (w.alloc (.cells #[.slice A0 n0 c0] 22)) (.cells #[.int .i64 a1] 3)
    rwa [World.size_alloc] at this
  have hB1 : Below w.heap.size w W1 := by rw [HW]; exact ((Below.refl _ w).alloc (Nat.le_refl _) _).alloc (by simp) _
  refine ⟨_, rfl, Kd.F_far (p := ⟨w.heap.size, 0, none⟩) HF (fun k hk => by show k ≠ w.heap.size; omega) _, blk_put (blk_below b0 HB2) 0 _ rfl, blk_far (p := ⟨w.heap.size, 0, none⟩) (blk_below b1 HB2) (by show w.heap.size + 1 ≠ w.heap.size; omega) _, ?_⟩
  exact below_set (below_step hB1 HB2) (Nat.le_refl _)
set_option maxHeartbeats 4000000 in
set_option maxRecDepth 100000 in
theorem record_Sum.calls (k : Nat) (A0 : Option Addr) (c0 : Nat) (l0 : List (S40)) (a1 : Int) (r : Int) (w : World) (hr0 : Kd.C k40 w A0 l0.length l0) (hc0 : l0.length ≤ c0) (h : record_Sum.f k l0 a1 = some r) :
    Calls Try.prog 33 #[.slice A0 l0.length c0, .int .i64 a1] w fun e w' => e = .returned (.int .i64 r) ∧ Below w.heap.size w w' := by
  unfold record_Sum.f at h
  obtain ⟨l, hl, h⟩ := Option.bind_eq_some_iff.mp h
  by_cases hs : l.length < 4611686018427387904 ∧ record_Sum.Asc l
  · rw [if_pos hs] at h
    obtain ⟨hsz, hasc⟩ := hs
    obtain ⟨W1, hW1⟩ : ∃ W1, W1 = (w.alloc (.cells #[.slice A0 l0.length c0] 22)).alloc (.cells #[.int .i64 a1] 3) := ⟨_, rfl⟩
    have hsize : W1.heap.size = w.heap.size + 1 + 1 := by rw [hW1]; simp
    have hB1 : Below w.heap.size w W1 := by rw [hW1]; exact ((Below.refl _ w).alloc (Nat.le_refl _) _).alloc (by simp) _
    have b0 : W1.heap[w.heap.size]? = some (.cells #[.slice A0 l0.length c0] 22 (0, 0)) := by rw [hW1]; exact blk_alloc (blk_new _ _) _
    have b1 : W1.heap[w.heap.size + 1]? = some (.cells #[.int .i64 a1] 3 (0, 0)) := by
      rw [hW1]
      have := blk_new (w.alloc (.cells #[.slice A0 l0.length c0] 22)) (.cells #[.int .i64 a1] 3)
      rwa [World.size_alloc] at this
    have hV : Kd.V k40 40 W1 W1.heap.size (fun k_ => k_ < w.heap.size) (.slice A0 l0.length c0) l0 := Kd.V_mk hc0 (Kd.F_below (Kd.C_F k40_heap hr0) hB1)
    have HL := Aside0.mk (record_leaps.calls k (fun k_ => k_ < w.heap.size) A0 c0 l0 l W1 hV hl)
    have HW := Aside0.mk hW1
    have HZ := Aside0.mk hsize
    have HB1 := Aside0.mk hB1
    have B0 := Aside0.mk b0
    have B1 := Aside0.mk b1
    have HS := Aside0.mk hsz
    have HA := Aside0.mk hasc
    clear hV hW1 hsize hB1 b0 b1 hsz hasc hr0 hc0 hl
    generalize hcnt : l.countP (fun y => !decide (y.f0 > a1)) = cnt at h
    have HCNT := Aside0.mk hcnt
    clear hcnt
    have hu2 := Try.underlying40
    by_cases hz : cnt = 0
    · rw [if_pos hz] at h
      obtain rfl := Option.some.inj h
      clear h
      have hcz : ((cnt : Int) == 0) = true := beq_iff_eq.mpr (by omega)
      have HCZ := Aside0.mk hz
      clear hz
      go_enter Try.func33, Try.ntmps33
      go_wp2_with (first | (go_at_call 45; rw [← HW.out]; refine HL.out.mono ?_; rintro e w2 ⟨v, rfl, hv, hb⟩; obtain ⟨A, c, rfl, hlc, hF⟩ := hv; have HF := Aside0.mk hF; have HB2 := Aside0.mk hb; have HLC := Aside0.mk hlc; have hcz0 : w2.cell? ⟨w.heap.size, 0, none⟩ = some (.slice A0 l0.length c0) := (blk_cell (blk_below B0.out HB2.out) 0).trans rfl; have hfz0 := blk_frozen (blk_below B0.out HB2.out) 0; have hcz1 : w2.cell? ⟨w.heap.size + 1, 0, none⟩ = some (.int .i64 a1) := (blk_cell (blk_below B1.out HB2.out) 0).trans rfl; clear hF hb hlc) | (go_at_call 46; obtain ⟨W3, hW3, hF3, hb30, hb31, hB3⟩ := record_Sum.mid w W1 w2 A0 A c0 c l0.length a1 l HW.out HB2.out HF.out; rw [← hW3]; refine (record_Sum.search w.heap.size (w.heap.size + 1) A c l a1 W3 (Kd.F_now hF3) HS.out HA.out ((blk_cell hb30 0).trans rfl) ((blk_cell hb31 0).trans rfl)).mono ?_; rintro e w4 ⟨rfl, hb4⟩; rw [HCNT.out]; have hB4 := Aside0.mk (below_step hB3 hb4); clear hW3 hF3 hb30 hb31 hB3 hb4))
      go_ret
      exact ⟨rfl, hB4.out⟩
    · rw [if_neg hz] at h
      obtain rfl := Option.some.inj h
      clear h
      obtain ⟨m, rfl⟩ : ∃ m, cnt = m + 1 := ⟨cnt - 1, by omega⟩
      have HM : Aside0 (m < l.length) := ⟨by have := List.countP_le_length (p := fun y => !decide (y.f0 > a1)) (l := l); have := HCNT.out; omega⟩
      have hcz : (((m + 1 : Nat) : Int) == 0) = false := beq_eq_false_iff_ne.mpr (by omega)
      have hwz : wrap64 (m : Int) = (m : Int) := by have := HM.out; have := HS.out; unfold wrap64; omega
      clear hz
      go_enter Try.func33, Try.ntmps33
      go_wp2_with (first | (go_at_call 45; rw [← HW.out]; refine HL.out.mono ?_; rintro e w2 ⟨v, rfl, hv, hb⟩; obtain ⟨A, c, rfl, hlc, hF⟩ := hv; have HF := Aside0.mk hF; have HB2 := Aside0.mk hb; have HLC := Aside0.mk hlc; have hcz0 : w2.cell? ⟨w.heap.size, 0, none⟩ = some (.slice A0 l0.length c0) := (blk_cell (blk_below B0.out HB2.out) 0).trans rfl; have hfz0 := blk_frozen (blk_below B0.out HB2.out) 0; have hcz1 : w2.cell? ⟨w.heap.size + 1, 0, none⟩ = some (.int .i64 a1) := (blk_cell (blk_below B1.out HB2.out) 0).trans rfl; clear hF hb hlc) | (go_at_call 46; obtain ⟨W3, hW3, hF3, hb30, hb31, hB3⟩ := record_Sum.mid w W1 w2 A0 A c0 c l0.length a1 l HW.out HB2.out HF.out; rw [← hW3]; refine (record_Sum.search w.heap.size (w.heap.size + 1) A c l a1 W3 (Kd.F_now hF3) HS.out HA.out ((blk_cell hb30 0).trans rfl) ((blk_cell hb31 0).trans rfl)).mono ?_; rintro e w4 ⟨rfl, hb4⟩; rw [HCNT.out]; have hB4 := Aside0.mk (below_step hB3 hb4); have hF4 := Kd.F_below hF3 hb4; obtain ⟨ad, rfl, hx0, hx1⟩ := at_T40 (Kd.F_now hF4) (m : Int) (by omega) (by have := HM.out; omega); simp only [Int.toNat_natCast] at hx0 hx1; have hcz4 : w4.cell? ⟨w.heap.size, 0, none⟩ = some (.slice (some ad) l.length c) := (blk_cell (blk_below hb30 hb4) 0).trans rfl; have hmz : (m : Int) < (l.length : Int) := (by have := HM.out; omega); have hmz0 : 0 ≤ (m : Int) := (by omega); clear hW3 hF3 hb30 hb31 hB3 hb4 hF4))
      go_ret
      exact ⟨by simp [rd_T40], hB4.out⟩
  · rw [if_neg hs] at h; exact absurd h (by simp)

/-! ### record_Step: function 34 -/
-- by hand: wip/hand
/-- are records in order? -/
def record_Step.Asc (l : List S40) : Prop := l.Pairwise (fun x y => x.f0 ≤ y.f0)
instance (l : List S40) : Decidable (record_Step.Asc l) := by unfold record_Step.Asc; exact inferInstance
/-- what is told of the place that the search finds -/
def record_Step.val (l : List S40) (a1 : Int) (n : Nat) : Int :=
  if n < l.length then (if (rd_T40 l n).f0 = a1 then (if n = 0 then (rd_T40 l 0).f1 else wrap64 ((rd_T40 l n).f1 - (rd_T40 l ((n : Int) - 1)).f1)) else 0) else 0
def record_Step.f (k : Nat) (l0 : List (S40)) (a1 : Int) : Option (Int) := (record_leaps.f k l0).bind fun l =>
  if l.length < 4611686018427387904 ∧ record_Step.Asc l then some (record_Step.val l a1 (l.countP (fun y => !decide (y.f0 ≥ a1)))) else none
theorem record_Step.mono : ∀ a0 a1 k, LeO (record_Step.f k a0 a1) (record_Step.f (k + 1) a0 a1) := by
  intro a0 a1 k
  unfold record_Step.f
  exact LeO.bind (record_leaps.mono _ _) (fun _ => LeO.refl _)
set_option maxHeartbeats 2000000 in
theorem record_Step.clo (gt gd n c : Nat) (ad : Addr) (a1 x : Int) (i : Nat) (W : World) (hi : i < n)
    (h0 : W.cell? ⟨gt, 0, none⟩ = some (.slice (some ad) n c)) (hd : W.cell? ⟨gd, 0, none⟩ = some (.int .i64 a1)) (hc : W.cell? (ad.add (i * 2)) = some (.int .i64 x)) :
    Calls Try.prog 48 (#[.int .i64 i] ++ #[.pointer (some ⟨gt, 0, none⟩), .pointer (some ⟨gd, 0, none⟩)]) W fun e w' => e = .returned (.bool (decide (x ≥ a1))) ∧ ∃ q, w' = W.drewN q := by
  have hiz : (i : Int) < (n : Int) := by omega
  have hu2 := Try.underlying40
  go_enter Try.func48, Try.ntmps48
  go_wp2
  go_region
  all_goals go_wp2
  all_goals go_ret
  all_goals exact ⟨by first | rfl | simp, 1, rfl⟩
theorem record_Step.asc_at {l : List S40} (h : record_Step.Asc l) (a b : Nat) (hab : a ≤ b) (hb : b < l.length) : (l.getD a z40).f0 ≤ (l.getD b z40).f0 := by
  have ha : a < l.length := by omega
  simp only [List.getD_eq_getElem?_getD, List.getElem?_eq_getElem ha, List.getElem?_eq_getElem hb, Option.getD_some]
  by_cases e : a = b
  · subst e; exact Int.le_refl _
  · exact List.pairwise_iff_getElem.mp h a b ha hb (by omega)
theorem record_Step.count (l : List S40) (p : S40 → Bool) : (List.range l.length).countP (fun i => p (l.getD i z40)) = l.countP p := by
  have : l = (List.range l.length).map (fun i => l.getD i z40) := by
    apply List.ext_getElem
    · simp
    · intro i h1 h2; simp [h1]
  conv => rhs; rw [this, List.countP_map]
  rfl
open Go.Shelf Go.Sort in
theorem record_Step.search (g0 g1 : Nat) (A : Option Addr) (c : Nat) (l : List (S40)) (a1 : Int) (W : World) (hC : Kd.C k40 W A l.length l) (hsz : l.length < 4611686018427387904) (hasc : record_Step.Asc l)
    (h0 : W.cell? ⟨g0, 0, none⟩ = some (.slice A l.length c)) (h1 : W.cell? ⟨g1, 0, none⟩ = some (.int .i64 a1)) :
    Calls Try.prog 46 #[.int .i64 (l.length : Nat), .func (.func 48) #[] #[.pointer (some ⟨g0, 0, none⟩), .pointer (some ⟨g1, 0, none⟩)]] W
      fun e w' => e = .returned (.int .i64 ((l.countP (fun y => !decide (y.f0 ≥ a1)) : Nat) : Int)) ∧ Below W.heap.size W w' := by
  have eg : ∀ args w, (callFunc 48 args).run Try.prog w = .ok (.enter 48 args) w := enters_of Try.func48 (by kernel_rfl) rfl
  have b0 := World.block_lt_of_cell? W _ h0
  have b1 := World.block_lt_of_cell? W _ h1
  have hS := Any.sort_Search Try.laysSearch 48 #[.pointer (some ⟨g0, 0, none⟩), .pointer (some ⟨g1, 0, none⟩)] l.length (fun i => decide ((l.getD i z40).f0 ≥ a1)) W eg hsz
    (fun m os i hi => by
      obtain ⟨ad, rfl, hx, _⟩ := at_T40 hC (i : Int) (by omega) (by omega)
      have hx' : W.cell? (ad.add (i * 2)) = some (.int .i64 (l.getD i z40).f0) := by simpa [rd_T40] using hx
      have hlt := World.block_lt_of_cell? W _ hx'
      refine (record_Step.clo g0 g1 l.length c ad a1 _ i _ hi (cell_grown b0 h0 m os) (cell_grown b1 h1 m os) (cell_grown hlt hx' m os)).mono ?_
      rintro _ _ ⟨he, q, hq⟩
      exact ⟨he, q, #[], by rw [hq, grow_empty]⟩)
    (fun a b hab hb hp => by have := record_Step.asc_at hasc a b hab hb; simp only [decide_eq_true_eq] at hp ⊢; omega)
  rw [record_Step.count l (fun y => !decide (y.f0 ≥ a1))] at hS
  exact hS.mono fun e w' ⟨he, q, os, hw⟩ => ⟨he, by rw [hw]; exact below_grown_sl W.heap.size W q os (Nat.le_refl _)⟩
theorem record_Step.mid (w W1 w2 : World) (A0 A : Option Addr) (c0 c n0 : Nat) (a1 : Int) (l : List (S40)) (HW : W1 = (w.alloc (.cells #[.slice A0 n0 c0] 22)).alloc (.cells #[.int .i64 a1] 3))
    (HB2 : Below W1.heap.size W1 w2) (HF : Kd.F k40 w2 (fun k_ => k_ < w.heap.size ∨ W1.heap.size ≤ k_) A l.length l) :
    ∃ W3, W3 = w2.setCell ⟨w.heap.size, 0, none⟩ (.slice A l.length c) ∧ Kd.F k40 W3 (fun k_ => k_ < w.heap.size ∨ W1.heap.size ≤ k_) A l.length l ∧
      W3.heap[w.heap.size]? = some (.cells #[.slice A l.length c] 22 (0, 0)) ∧ W3.heap[w.heap.size + 1]? = some (.cells #[.int .i64 a1] 3 (0, 0)) ∧ Below w.heap.size w W3 := by
  have hsize : W1.heap.size = w.heap.size + 1 + 1 := by rw [HW]; simp
  have b0 : W1.heap[w.heap.size]? = some (.cells #[.slice A0 n0 c0] 22 (0, 0)) := by rw [HW]; exact blk_alloc (blk_new _ _) _
  have b1 : W1.heap[w.heap.size + 1]? = some (.cells #[.int .i64 a1] 3 (0, 0)) := by
    rw [HW]
    have := blk_new (w.alloc (.cells #[.slice A0 n0 c0] 22)) (.cells #[.int .i64 a1] 3)
    rwa [World.size_alloc] at this
  have hB1 : Below w.heap.size w W1 := by rw [HW]; exact ((Below.refl _ w).alloc (Nat.le_refl _) _).alloc (by simp) _
  refine ⟨_, rfl, Kd.F_far (p := ⟨w.heap.size, 0, none⟩) HF (fun k hk => by show k ≠ w.heap.size; omega) _, blk_put (blk_below b0 HB2) 0 _ rfl, blk_far (p := ⟨w.heap.size, 0, none⟩) (blk_below b1 HB2) (by show w.heap.size + 1 ≠ w.heap.size; omega) _, ?_⟩
  exact below_set (below_step hB1 HB2) (Nat.le_refl _)
set_option maxHeartbeats 4000000 in
set_option maxRecDepth 100000 in
theorem record_Step.calls (k : Nat) (A0 : Option Addr) (c0 : Nat) (l0 : List (S40)) (a1 : Int) (r : Int) (w : World) (hr0 : Kd.C k40 w A0 l0.length l0) (hc0 : l0.length ≤ c0) (h : record_Step.f k l0 a1 = some r) :
    Calls Try.prog 34 #[.slice A0 l0.length c0, .int .i64 a1] w fun e w' => e = .returned (.int .i64 r) ∧ Below w.heap.size w w' := by
  unfold record_Step.f at h
  obtain ⟨l, hl, h⟩ := Option.bind_eq_some_iff.mp h
  by_cases hs : l.length < 4611686018427387904 ∧ record_Step.Asc l
  · rw [if_pos hs] at h
    obtain ⟨hsz, hasc⟩ := hs
    obtain ⟨W1, hW1⟩ : ∃ W1, W1 = (w.alloc (.cells #[.slice A0 l0.length c0] 22)).alloc (.cells #[.int .i64 a1] 3) := ⟨_, rfl⟩
    have hsize : W1.heap.size = w.heap.size + 1 + 1 := by rw [hW1]; simp
    have hB1 : Below w.heap.size w W1 := by rw [hW1]; exact ((Below.refl _ w).alloc (Nat.le_refl _) _).alloc (by simp) _
    have b0 : W1.heap[w.heap.size]? = some (.cells #[.slice A0 l0.length c0] 22 (0, 0)) := by rw [hW1]; exact blk_alloc (blk_new _ _) _
    have b1 : W1.heap[w.heap.size + 1]? = some (.cells #[.int .i64 a1] 3 (0, 0)) := by
      rw [hW1]
      have := blk_new (w.alloc (.cells #[.slice A0 l0.length c0] 22)) (.cells #[.int .i64 a1] 3)
      rwa [World.size_alloc] at this
    have hV : Kd.V k40 40 W1 W1.heap.size (fun k_ => k_ < w.heap.size) (.slice A0 l0.length c0) l0 := Kd.V_mk hc0 (Kd.F_below (Kd.C_F k40_heap hr0) hB1)
    have HL := Aside0.mk (record_leaps.calls k (fun k_ => k_ < w.heap.size) A0 c0 l0 l W1 hV hl)
    have HW := Aside0.mk hW1
    have HZ := Aside0.mk hsize
    have HB1 := Aside0.mk hB1
    have B0 := Aside0.mk b0
    have B1 := Aside0.mk b1
    have HS := Aside0.mk hsz
    have HA := Aside0.mk hasc
    clear hV hW1 hsize hB1 b0 b1 hsz hasc hr0 hc0 hl
    generalize hcnt : l.countP (fun y => !decide (y.f0 ≥ a1)) = cnt at h
    have HCNT := Aside0.mk hcnt
    clear hcnt
    have hu2 := Try.underlying40
    by_cases hlt : cnt < l.length
    rotate_left
    · rw [show record_Step.val l a1 cnt = 0 by unfold record_Step.val; rw [if_neg hlt]] at h
      obtain rfl := Option.some.inj h
      clear h
      have hcz : ((cnt : Int) == (l.length : Int)) = true := beq_iff_eq.mpr (by have := List.countP_le_length (p := fun y => !decide (y.f0 ≥ a1)) (l := l); have := HCNT.out; omega)
      clear hlt
      go_enter Try.func34, Try.ntmps34
      go_wp2_with (first | (go_at_call 45; rw [← HW.out]; refine HL.out.mono ?_; rintro e w2 ⟨v, rfl, hv, hb⟩; obtain ⟨A, c, rfl, hlc, hF⟩ := hv; have HF := Aside0.mk hF; have HB2 := Aside0.mk hb; have HLC := Aside0.mk hlc; have hcz0 : w2.cell? ⟨w.heap.size, 0, none⟩ = some (.slice A0 l0.length c0) := (blk_cell (blk_below B0.out HB2.out) 0).trans rfl; have hfz0 := blk_frozen (blk_below B0.out HB2.out) 0; have hcz1 : w2.cell? ⟨w.heap.size + 1, 0, none⟩ = some (.int .i64 a1) := (blk_cell (blk_below B1.out HB2.out) 0).trans rfl; clear hF hb hlc) | (go_at_call 46; obtain ⟨W3, hW3, hF3, hb30, hb31, hB3⟩ := record_Step.mid w W1 w2 A0 A c0 c l0.length a1 l HW.out HB2.out HF.out; rw [← hW3]; refine (record_Step.search w.heap.size (w.heap.size + 1) A c l a1 W3 (Kd.F_now hF3) HS.out HA.out ((blk_cell hb30 0).trans rfl) ((blk_cell hb31 0).trans rfl)).mono ?_; rintro e w4 ⟨rfl, hb4⟩; rw [HCNT.out]; have hB4 := Aside0.mk (below_step hB3 hb4); have hF4 := Kd.F_below hF3 hb4; have hcz4 : w4.cell? ⟨w.heap.size, 0, none⟩ = some (.slice A l.length c) := (blk_cell (blk_below hb30 hb4) 0).trans rfl; have hcz5 : w4.cell? ⟨w.heap.size + 1, 0, none⟩ = some (.int .i64 a1) := (blk_cell (blk_below hb31 hb4) 0).trans rfl; clear hW3 hF3 hb30 hb31 hB3 hb4 hF4))
      go_region
      all_goals go_wp2
      go_ret
      exact ⟨by first | rfl | simp [*], by repeat (first | exact hB4.out | apply below_drew1 | apply pw_below_drewN)⟩
    have HM : Aside0 (cnt < l.length) := ⟨hlt⟩
    by_cases hat : (rd_T40 l (cnt : Int)).f0 = a1
    rotate_left
    · rw [show record_Step.val l a1 cnt = 0 by unfold record_Step.val; rw [if_pos hlt, if_neg hat]] at h
      obtain rfl := Option.some.inj h
      clear h
      have hcz : ((cnt : Int) == (l.length : Int)) = false := beq_eq_false_iff_ne.mpr (by omega)
      have hmz : (cnt : Int) < (l.length : Int) := (by omega)
      have hmz0 : 0 ≤ (cnt : Int) := (by omega)
      have hne : ((rd_T40 l (cnt : Int)).f0 != a1) = true := bne_iff_ne.mpr hat
      clear hlt
      go_enter Try.func34, Try.ntmps34
      go_wp2_with (first | (go_at_call 45; rw [← HW.out]; refine HL.out.mono ?_; rintro e w2 ⟨v, rfl, hv, hb⟩; obtain ⟨A, c, rfl, hlc, hF⟩ := hv; have HF := Aside0.mk hF; have HB2 := Aside0.mk hb; have HLC := Aside0.mk hlc; have hcz0 : w2.cell? ⟨w.heap.size, 0, none⟩ = some (.slice A0 l0.length c0) := (blk_cell (blk_below B0.out HB2.out) 0).trans rfl; have hfz0 := blk_frozen (blk_below B0.out HB2.out) 0; have hcz1 : w2.cell? ⟨w.heap.size + 1, 0, none⟩ = some (.int .i64 a1) := (blk_cell (blk_below B1.out HB2.out) 0).trans rfl; clear hF hb hlc) | (go_at_call 46; obtain ⟨W3, hW3, hF3, hb30, hb31, hB3⟩ := record_Step.mid w W1 w2 A0 A c0 c l0.length a1 l HW.out HB2.out HF.out; rw [← hW3]; refine (record_Step.search w.heap.size (w.heap.size + 1) A c l a1 W3 (Kd.F_now hF3) HS.out HA.out ((blk_cell hb30 0).trans rfl) ((blk_cell hb31 0).trans rfl)).mono ?_; rintro e w4 ⟨rfl, hb4⟩; rw [HCNT.out]; have hB4 := Aside0.mk (below_step hB3 hb4); have hF4 := Kd.F_below hF3 hb4; have hcz4 : w4.cell? ⟨w.heap.size, 0, none⟩ = some (.slice A l.length c) := (blk_cell (blk_below hb30 hb4) 0).trans rfl; have hcz5 : w4.cell? ⟨w.heap.size + 1, 0, none⟩ = some (.int .i64 a1) := (blk_cell (blk_below hb31 hb4) 0).trans rfl; obtain ⟨ada, ea, hxa0, hxa1⟩ := at_T40 (Kd.F_now hF4) ((cnt : Int)) (by omega) (by have := HM.out; omega); cases ea; simp only [Int.toNat_natCast] at hxa0 hxa1; clear hW3 hF3 hb30 hb31 hB3 hb4 hF4))
      go_region
      all_goals go_wp2
      go_ret
      exact ⟨by first | rfl | simp [*], by repeat (first | exact hB4.out | apply below_drew1 | apply pw_below_drewN)⟩
    by_cases hz : cnt = 0
    · subst hz
      rw [show record_Step.val l a1 0 = (rd_T40 l 0).f1 by unfold record_Step.val; rw [if_pos hlt, if_pos (by simpa using hat), if_pos rfl]] at h
      obtain rfl := Option.some.inj h
      clear h
      have hcz : ((0 : Int) == (l.length : Int)) = false := beq_eq_false_iff_ne.mpr (by omega)
      have hmz : (0 : Int) < (l.length : Int) := (by omega)
      have hat0 : (rd_T40 l 0).f0 = a1 := by simpa using hat
      have hne : ((rd_T40 l 0).f0 != a1) = false := bne_eq_false_iff_eq.mpr hat0
      clear hlt hat
      go_enter Try.func34, Try.ntmps34
      go_wp2_with (first | (go_at_call 45; rw [← HW.out]; refine HL.out.mono ?_; rintro e w2 ⟨v, rfl, hv, hb⟩; obtain ⟨A, c, rfl, hlc, hF⟩ := hv; have HF := Aside0.mk hF; have HB2 := Aside0.mk hb; have HLC := Aside0.mk hlc; have hcz0 : w2.cell? ⟨w.heap.size, 0, none⟩ = some (.slice A0 l0.length c0) := (blk_cell (blk_below B0.out HB2.out) 0).trans rfl; have hfz0 := blk_frozen (blk_below B0.out HB2.out) 0; have hcz1 : w2.cell? ⟨w.heap.size + 1, 0, none⟩ = some (.int .i64 a1) := (blk_cell (blk_below B1.out HB2.out) 0).trans rfl; clear hF hb hlc) | (go_at_call 46; obtain ⟨W3, hW3, hF3, hb30, hb31, hB3⟩ := record_Step.mid w W1 w2 A0 A c0 c l0.length a1 l HW.out HB2.out HF.out; rw [← hW3]; refine (record_Step.search w.heap.size (w.heap.size + 1) A c l a1 W3 (Kd.F_now hF3) HS.out HA.out ((blk_cell hb30 0).trans rfl) ((blk_cell hb31 0).trans rfl)).mono ?_; rintro e w4 ⟨rfl, hb4⟩; rw [HCNT.out]; have hB4 := Aside0.mk (below_step hB3 hb4); have hF4 := Kd.F_below hF3 hb4; have hcz4 : w4.cell? ⟨w.heap.size, 0, none⟩ = some (.slice A l.length c) := (blk_cell (blk_below hb30 hb4) 0).trans rfl; have hcz5 : w4.cell? ⟨w.heap.size + 1, 0, none⟩ = some (.int .i64 a1) := (blk_cell (blk_below hb31 hb4) 0).trans rfl; obtain ⟨ada, ea, hxa0, hxa1⟩ := at_T40 (Kd.F_now hF4) ((0 : Int)) (by omega) (by have := HM.out; omega); cases ea; simp only [Int.toNat_zero, Nat.zero_mul] at hxa0 hxa1; rw [show ada.add 0 = ada from rfl] at hxa0 hxa1; clear hW3 hF3 hb30 hb31 hB3 hb4 hF4))
      go_region
      all_goals go_wp2
      go_ret
      exact ⟨by first | rfl | simp [*], by repeat (first | exact hB4.out | apply below_drew1 | apply pw_below_drewN)⟩
    · obtain ⟨m, rfl⟩ : ∃ m, cnt = m + 1 := ⟨cnt - 1, by omega⟩
      have ec : ((m + 1 : Nat) : Int) = (m : Int) + 1 := by omega
      rw [ec] at hat
      rw [show record_Step.val l a1 (m + 1) = wrap64 ((rd_T40 l ((m : Int) + 1)).f1 - (rd_T40 l (m : Int)).f1) by unfold record_Step.val; rw [ec, if_pos hlt, if_pos hat, if_neg (by omega), show (m : Int) + 1 - 1 = (m : Int) by omega]] at h
      obtain rfl := Option.some.inj h
      clear h ec
      have hcz : ((m : Int) + 1 == (l.length : Int)) = false := beq_eq_false_iff_ne.mpr (by omega)
      have hc0 : ((m : Int) + 1 == 0) = false := beq_eq_false_iff_ne.mpr (by omega)
      have hmz : (m : Int) + 1 < (l.length : Int) := (by omega)
      have hmz0 : 0 ≤ (m : Int) + 1 := (by omega)
      have hmy : (m : Int) < (l.length : Int) := (by omega)
      have hmy0 : 0 ≤ (m : Int) := (by omega)
      have hne : ((rd_T40 l ((m : Int) + 1)).f0 != a1) = false := bne_eq_false_iff_eq.mpr hat
      have hwz : wrap64 (m : Int) = (m : Int) := by have := HM.out; have := HS.out; unfold wrap64; omega
      clear hlt hz
      go_enter Try.func34, Try.ntmps34
      go_wp2_with (first | (go_at_call 45; rw [← HW.out]; refine HL.out.mono ?_; rintro e w2 ⟨v, rfl, hv, hb⟩; obtain ⟨A, c, rfl, hlc, hF⟩ := hv; have HF := Aside0.mk hF; have HB2 := Aside0.mk hb; have HLC := Aside0.mk hlc; have hcz0 : w2.cell? ⟨w.heap.size, 0, none⟩ = some (.slice A0 l0.length c0) := (blk_cell (blk_below B0.out HB2.out) 0).trans rfl; have hfz0 := blk_frozen (blk_below B0.out HB2.out) 0; have hcz1 : w2.cell? ⟨w.heap.size + 1, 0, none⟩ = some (.int .i64 a1) := (blk_cell (blk_below B1.out HB2.out) 0).trans rfl; clear hF hb hlc) | (go_at_call 46; obtain ⟨W3, hW3, hF3, hb30, hb31, hB3⟩ := record_Step.mid w W1 w2 A0 A c0 c l0.length a1 l HW.out HB2.out HF.out; rw [← hW3]; refine (record_Step.search w.heap.size (w.heap.size + 1) A c l a1 W3 (Kd.F_now hF3) HS.out HA.out ((blk_cell hb30 0).trans rfl) ((blk_cell hb31 0).trans rfl)).mono ?_; rintro e w4 ⟨rfl, hb4⟩; rw [HCNT.out]; have hB4 := Aside0.mk (below_step hB3 hb4); have hF4 := Kd.F_below hF3 hb4; have hcz4 : w4.cell? ⟨w.heap.size, 0, none⟩ = some (.slice A l.length c) := (blk_cell (blk_below hb30 hb4) 0).trans rfl; have hcz5 : w4.cell? ⟨w.heap.size + 1, 0, none⟩ = some (.int .i64 a1) := (blk_cell (blk_below hb31 hb4) 0).trans rfl; obtain ⟨ada, ea, hxa0, hxa1⟩ := at_T40 (Kd.F_now hF4) ((m : Int) + 1) (by omega) (by have := HM.out; omega); cases ea; rw [show ((m : Int) + 1).toNat = m + 1 by omega] at hxa0 hxa1; obtain ⟨adb, eb, hxb0, hxb1⟩ := at_T40 (Kd.F_now hF4) ((m : Int)) (by omega) (by have := HM.out; omega); cases eb; simp only [Int.toNat_natCast] at hxb0 hxb1; clear hW3 hF3 hb30 hb31 hB3 hb4 hF4))
      go_region
      all_goals go_wp2
      all_goals go_region
      all_goals go_wp2
      go_ret
      exact ⟨by first | rfl | simp [*], by repeat (first | exact hB4.out | apply below_drew1 | apply pw_below_drewN)⟩
  · rw [if_neg hs] at h; exact absurd h (by simp)

/-! ### scale_Utc: function 22 -/
def scale_Utc.j0 : Nat → List (S40) → Int → Bool → Bool → Option (Int × Int × Int)
  | 0, _, _, _, _ => none
  | k + 1, x0, x7, x8, x23 => if x23 = true then (some (0, 0, 10)) else (if x8 = true then ((record_Sum.f k x0 x7).bind fun t200 => ((num_Sub.f x7 t200).bind fun bt201 => ((num_Div.f bt201.1 86400).bind fun bt203 => ((record_Step.f k x0 x7).bind fun t206 => (if t206 > 0 then (if bt201.2 = true then (if bt203.1 > 2932896 then (some (0, 0, 9)) else (some (bt203.1, wrap64 (bt203.2.1 + 1), 0))) else (some (0, 0, 9))) else (if bt201.2 = true then (if bt203.1 > 2932896 then (some (0, 0, 9)) else (some (bt203.1, bt203.2.1, 0))) else (some (0, 0, 9)))))))) else (some (0, 0, 9)))
def scale_Utc.f (k : Nat) (l0 : List (S40)) (a1 : Int) : Option (Int × Int × Int) := (num_Add.f a1 63072000).bind fun bt195 => ((scale_Known.f k l0).bind fun t197 => (if t197 = true then (if a1 < 0 then (some (0, 0, 9)) else (if bt195.2 = true then ((scale_expired.f k l0 bt195.1).bind fun t198 => (if t198 = true then (scale_Utc.j0 k l0 bt195.1 bt195.2 true) else (scale_Utc.j0 k l0 bt195.1 bt195.2 false))) else ((scale_expired.f k l0 9223372036854775807).bind fun t199 => (scale_Utc.j0 k l0 bt195.1 bt195.2 t199)))) else (some (0, 0, 1))))
theorem scale_Utc.mono_l : ∀ k, (∀ y0 y1 y2 y3, LeO (scale_Utc.j0 k y0 y1 y2 y3) (scale_Utc.j0 (k + 1) y0 y1 y2 y3))
  | 0 => fun _ _ _ _ r h => by simp [scale_Utc.j0] at h
  | k + 1 => by
    have ih0 := scale_Utc.mono_l k
    · intro y0 y1 y2 y3
      unfold scale_Utc.j0
      repeat' first
      | (with_reducible exact ih0 _ _ _ _)
      | (with_reducible exact record_Step.mono _ _ _)
      | (with_reducible exact record_Sum.mono _ _ _)
      | (with_reducible exact scale_Known.mono _ _)
      | (with_reducible exact scale_expired.mono _ _ _)
      | (with_reducible exact LeO.refl _)
      | (with_reducible exact LeO.none _)
      | (with_reducible refine LeO.ite ?_ ?_)
      | (with_reducible refine LeO.bind ?_ (fun _ => ?_))
      | exact ih0 _ _ _ _
      | exact record_Step.mono _ _ _
      | exact record_Sum.mono _ _ _
      | exact scale_Known.mono _ _
      | exact scale_expired.mono _ _ _
      | exact LeO.none _
      | refine LeO.ite ?_ ?_
      | refine LeO.bind ?_ (fun _ => ?_)
theorem scale_Utc.mono : ∀ a0 a1 k, LeO (scale_Utc.f k a0 a1) (scale_Utc.f (k + 1) a0 a1) := by
  intro a0 a1 k
  have ih0 := scale_Utc.mono_l k
  unfold scale_Utc.f
  repeat' first
      | (with_reducible exact ih0 _ _ _ _)
      | (with_reducible exact record_Step.mono _ _ _)
      | (with_reducible exact record_Sum.mono _ _ _)
      | (with_reducible exact scale_Known.mono _ _)
      | (with_reducible exact scale_expired.mono _ _ _)
      | (with_reducible exact LeO.refl _)
      | (with_reducible exact LeO.none _)
      | (with_reducible refine LeO.ite ?_ ?_)
      | (with_reducible refine LeO.bind ?_ (fun _ => ?_))
      | exact ih0 _ _ _ _
      | exact record_Step.mono _ _ _
      | exact record_Sum.mono _ _ _
      | exact scale_Known.mono _ _
      | exact scale_expired.mono _ _ _
      | exact LeO.none _
      | refine LeO.ite ?_ ?_
      | refine LeO.bind ?_ (fun _ => ?_)
set_option maxHeartbeats 8000000 in
set_option maxRecDepth 100000 in
theorem scale_Utc.calls (k : Nat) (A0 : Option Addr) (c0 : Nat) (l0 : List (S40)) (a1 : Int) (r1 : Int) (r2 : Int) (r3 : Int) (w : World) (hr0 : Kd.C k40 w A0 l0.length l0) (hc0 : l0.length ≤ c0) (h : scale_Utc.f k l0 a1 = some (r1, r2, r3)) :
    Calls Try.prog 22 #[.slice A0 l0.length c0, .int .i64 a1] w fun e w' => e = .returned (.tuple #[.int .i64 r1, .int .i64 r2, .int .i64 r3]) ∧ Below w.heap.size w w' := by
  have HR0 := Aside0.mk hr0
  have HC0 := Aside0.mk hc0
  clear hr0 hc0
  have HB := Aside0.mk (Below.refl w.heap.size w)
  have H : ((num_Add.f a1 63072000).bind fun bt195 => ((scale_Known.f k l0).bind fun t197 => (if t197 = true then (if a1 < 0 then (some (0, 0, 9)) else (if bt195.2 = true then ((scale_expired.f k l0 bt195.1).bind fun t198 => (if t198 = true then (scale_Utc.j0 k l0 bt195.1 bt195.2 true) else (scale_Utc.j0 k l0 bt195.1 bt195.2 false))) else ((scale_expired.f k l0 9223372036854775807).bind fun t199 => (scale_Utc.j0 k l0 bt195.1 bt195.2 t199)))) else (some (0, 0, 1))))) = some (r1, r2, r3) := h
  clear h
  replace H := Option.bind_eq_some_iff.mp H
  obtain ⟨⟨t195, t196⟩, A30, H⟩ := H
  replace H : ((scale_Known.f k l0).bind fun t197 => (if t197 = true then (if a1 < 0 then (some (0, 0, 9)) else (if t196 = true then ((scale_expired.f k l0 t195).bind fun t198 => (if t198 = true then (scale_Utc.j0 k l0 t195 t196 true) else (scale_Utc.j0 k l0 t195 t196 false))) else ((scale_expired.f k l0 9223372036854775807).bind fun t199 => (scale_Utc.j0 k l0 t195 t196 t199)))) else (some (0, 0, 1)))) = some (r1, r2, r3) := H
  have A3 := Aside0.mk A30
  clear A30
  replace H := Option.bind_eq_some_iff.mp H
  obtain ⟨t197, A40, H⟩ := H
  replace H : (if t197 = true then (if a1 < 0 then (some (0, 0, 9)) else (if t196 = true then ((scale_expired.f k l0 t195).bind fun t198 => (if t198 = true then (scale_Utc.j0 k l0 t195 t196 true) else (scale_Utc.j0 k l0 t195 t196 false))) else ((scale_expired.f k l0 9223372036854775807).bind fun t199 => (scale_Utc.j0 k l0 t195 t196 t199)))) else (some (0, 0, 1))) = some (r1, r2, r3) := H
  have A4 := Aside0.mk A40
  clear A40
  by_cases c5 : t197 = true
  · subst c5
    have H1 : (if a1 < 0 then (some (0, 0, 9)) else (if t196 = true then ((scale_expired.f k l0 t195).bind fun t198 => (if t198 = true then (scale_Utc.j0 k l0 t195 t196 true) else (scale_Utc.j0 k l0 t195 t196 false))) else ((scale_expired.f k l0 9223372036854775807).bind fun t199 => (scale_Utc.j0 k l0 t195 t196 t199)))) = some (r1, r2, r3) := by rw [if_pos rfl] at H; exact H
    clear H
    have H := H1
    clear H1
    by_cases c6 : a1 < 0
    · rw [if_pos c6] at H
      have c6b0 : decide (a1 < 0) = true := decide_eq_true c6
      clear c6
      simp only [Option.some.injEq, Prod.mk.injEq] at H
      obtain ⟨rfl, rfl, rfl⟩ := H
      go_enter Try.func22, Try.ntmps22
      go_wp2_with (first | ((with_reducible refine gate_callee (f := 30) rfl ?_); refine goesL_ (some 13) rfl rfl Try.func30 (by kernel_rfl) rfl #[.int .i64 a1, .int .i64 63072000] rfl (by (try simp only [List.map_toArray, List.map_cons, List.map_nil]); first | done | rfl | (simp only [List.length_drop, List.length_take]; rfl)) ?_; (with_reducible refine (num_Add.calls a1 63072000 t195 t196 _ A3.out).mono ?_); rintro e w' ⟨rfl, ⟨nd, rfl⟩⟩; refine ⟨_, rfl, ?_⟩) | ((with_reducible refine gate_callee (f := 28) rfl ?_); refine goesL_ (some 18) rfl rfl Try.func28 (by kernel_rfl) rfl #[.slice A0 l0.length c0] rfl (by (try simp only [List.map_toArray, List.map_cons, List.map_nil]); first | done | rfl | (simp only [List.length_drop, List.length_take]; rfl)) ?_; (with_reducible refine (scale_Known.calls k _ _ l0 true _ ?side1 ?side2 A4.out).mono ?_); (case side1 => repeat (first | exact HR0.out | (with_reducible refine Kd.C_alloc ?_ _) | (with_reducible refine Kd.C_drewN ?_ _) | (with_reducible refine Kd.C_drew ?_))); (case side2 => exact HC0.out); rintro e w7 ⟨rfl, hb⟩; refine ⟨_, rfl, ?_⟩; have n0_ := Aside0.mk (below_step (by repeat (first | (with_reducible first | exact HB.out | apply below_alloc | apply pw_below_drewN | apply below_drew1) | exact HB.out)) hb); clear HB; have HB := n0_; clear n0_; (try clear hb); (try clear hb2); (try clear hk); (try clear hi)))
      go_ret3
      exact ⟨by first | rfl | (simp [errW_none, errW_some] <;> rfl) | (simp [*, errW_none, errW_some] <;> rfl), by repeat (first | (with_reducible first | exact HB.out | apply below_alloc | apply pw_below_drewN | apply below_drew1) | exact HB.out)⟩
    · rw [if_neg c6] at H
      have c6b0 : decide (a1 < 0) = false := decide_eq_false c6
      clear c6
      have HC8 := Aside0.mk H
      clear H
      go_enter Try.func22, Try.ntmps22
      go_upto_region 6 with (first | ((with_reducible refine gate_callee (f := 30) rfl ?_); refine goesL_ (some 13) rfl rfl Try.func30 (by kernel_rfl) rfl #[.int .i64 a1, .int .i64 63072000] rfl (by (try simp only [List.map_toArray, List.map_cons, List.map_nil]); first | done | rfl | (simp only [List.length_drop, List.length_take]; rfl)) ?_; (with_reducible refine (num_Add.calls a1 63072000 t195 t196 _ A3.out).mono ?_); rintro e w' ⟨rfl, ⟨nd, rfl⟩⟩; refine ⟨_, rfl, ?_⟩) | ((with_reducible refine gate_callee (f := 28) rfl ?_); refine goesL_ (some 18) rfl rfl Try.func28 (by kernel_rfl) rfl #[.slice A0 l0.length c0] rfl (by (try simp only [List.map_toArray, List.map_cons, List.map_nil]); first | done | rfl | (simp only [List.length_drop, List.length_take]; rfl)) ?_; (with_reducible refine (scale_Known.calls k _ _ l0 true _ ?side1 ?side2 A4.out).mono ?_); (case side1 => repeat (first | exact HR0.out | (with_reducible refine Kd.C_alloc ?_ _) | (with_reducible refine Kd.C_drewN ?_ _) | (with_reducible refine Kd.C_drew ?_))); (case side2 => exact HC0.out); rintro e w9 ⟨rfl, hb⟩; refine ⟨_, rfl, ?_⟩; have n0_ := Aside0.mk (below_step (by repeat (first | (with_reducible first | exact HB.out | apply below_alloc | apply pw_below_drewN | apply below_drew1) | exact HB.out)) hb); clear HB; have HB := n0_; clear n0_; (try clear hb); (try clear hb2); (try clear hk); (try clear hi)))
      (try simp only [Act.put, List.setIfInBounds_toArray, List.set_cons_zero, List.set_cons_succ])
      go_cut [23] (fun v23 wc => ∃ (kq : Nat) (x23_7 : Bool), v23 = .bool x23_7 ∧ Aside0 (scale_Utc.j0 kq l0 t195 t196 x23_7 = some (r1, r2, r3)) ∧ Aside0 (kq ≤ k) ∧ Aside0 (Below w.heap.size w wc))
      case first =>
        have H := HC8.out
        clear HC8
        by_cases c10 : t196 = true
        · subst c10
          have H1 : ((scale_expired.f k l0 t195).bind fun t198 => (if t198 = true then (scale_Utc.j0 k l0 t195 true true) else (scale_Utc.j0 k l0 t195 true false))) = some (r1, r2, r3) := by rw [if_pos rfl] at H; exact H
          clear H
          have H := H1
          clear H1
          replace H := Option.bind_eq_some_iff.mp H
          obtain ⟨t198, A110, H⟩ := H
          replace H : (if t198 = true then (scale_Utc.j0 k l0 t195 true true) else (scale_Utc.j0 k l0 t195 true false)) = some (r1, r2, r3) := H
          have A11 := Aside0.mk A110
          clear A110
          by_cases c12 : t198 = true
          · subst c12
            have H1 : (scale_Utc.j0 k l0 t195 true true) = some (r1, r2, r3) := by rw [if_pos rfl] at H; exact H
            clear H
            have H := H1
            clear H1
            have H' := Aside0.mk H
            clear H
            go_wp2_with (first | (go_at_call 31; (with_reducible refine (scale_expired.calls k _ _ l0 t195 true _ ?side1 ?side2 A11.out).mono ?_); (case side1 => repeat (first | exact (Kd.C_below HR0.out HB.out) | (with_reducible refine Kd.C_alloc ?_ _) | (with_reducible refine Kd.C_drewN ?_ _) | (with_reducible refine Kd.C_drew ?_))); (case side2 => exact HC0.out); rintro e w13 ⟨rfl, hb⟩; have n0_ := Aside0.mk (below_step (by repeat (first | (with_reducible first | exact HB.out | apply below_alloc | apply pw_below_drewN | apply below_drew1) | exact HB.out)) hb); clear HB; have HB := n0_; clear n0_; (try clear hb); (try clear hb2); (try clear hk); (try clear hi)))
            go_meet
            case rel => exact ⟨_, (true), (by first | rfl | (simp; done) | (simp [*]; done)), H', ⟨by first | omega | exact Nat.le_refl _⟩, ⟨by repeat (first | (with_reducible first | exact HB.out | apply below_alloc | apply pw_below_drewN | apply below_drew1) | exact HB.out)⟩⟩
          · replace c12 := Bool.eq_false_iff.mpr c12
            subst c12
            have H1 : (scale_Utc.j0 k l0 t195 true false) = some (r1, r2, r3) := by rw [if_neg (show ¬ (false = true) by decide)] at H; exact H
            clear H
            have H := H1
            clear H1
            have H' := Aside0.mk H
            clear H
            go_wp2_with (first | (go_at_call 31; (with_reducible refine (scale_expired.calls k _ _ l0 t195 false _ ?side1 ?side2 A11.out).mono ?_); (case side1 => repeat (first | exact (Kd.C_below HR0.out HB.out) | (with_reducible refine Kd.C_alloc ?_ _) | (with_reducible refine Kd.C_drewN ?_ _) | (with_reducible refine Kd.C_drew ?_))); (case side2 => exact HC0.out); rintro e w14 ⟨rfl, hb⟩; have n0_ := Aside0.mk (below_step (by repeat (first | (with_reducible first | exact HB.out | apply below_alloc | apply pw_below_drewN | apply below_drew1) | exact HB.out)) hb); clear HB; have HB := n0_; clear n0_; (try clear hb); (try clear hb2); (try clear hk); (try clear hi)))
            go_meet
            case rel => exact ⟨_, (false), (by first | rfl | (simp; done) | (simp [*]; done)), H', ⟨by first | omega | exact Nat.le_refl _⟩, ⟨by repeat (first | (with_reducible first | exact HB.out | apply below_alloc | apply pw_below_drewN | apply below_drew1) | exact HB.out)⟩⟩
        · replace c10 := Bool.eq_false_iff.mpr c10
          subst c10
          have H1 : ((scale_expired.f k l0 9223372036854775807).bind fun t199 => (scale_Utc.j0 k l0 t195 false t199)) = some (r1, r2, r3) := by rw [if_neg (show ¬ (false = true) by decide)] at H; exact H
          clear H
          have H := H1
          clear H1
          replace H := Option.bind_eq_some_iff.mp H
          obtain ⟨t199, A150, H⟩ := H
          replace H : (scale_Utc.j0 k l0 t195 false t199) = some (r1, r2, r3) := H
          have A15 := Aside0.mk A150
          clear A150
          have H' := Aside0.mk H
          clear H
          go_wp2_with (first | (go_at_call 31; (with_reducible refine (scale_expired.calls k _ _ l0 9223372036854775807 t199 _ ?side1 ?side2 A15.out).mono ?_); (case side1 => repeat (first | exact (Kd.C_below HR0.out HB.out) | (with_reducible refine Kd.C_alloc ?_ _) | (with_reducible refine Kd.C_drewN ?_ _) | (with_reducible refine Kd.C_drew ?_))); (case side2 => exact HC0.out); rintro e w16 ⟨rfl, hb⟩; have n0_ := Aside0.mk (below_step (by repeat (first | (with_reducible first | exact HB.out | apply below_alloc | apply pw_below_drewN | apply below_drew1) | exact HB.out)) hb); clear HB; have HB := n0_; clear n0_; (try clear hb); (try clear hb2); (try clear hk); (try clear hi)))
          go_meet
          case rel => exact ⟨_, (t199), (by first | rfl | (simp; done) | (simp [*]; done)), H', ⟨by first | omega | exact Nat.le_refl _⟩, ⟨by repeat (first | (with_reducible first | exact HB.out | apply below_alloc | apply pw_below_drewN | apply below_drew1) | exact HB.out)⟩⟩
      case rest =>
        clear HC8
        try clear c1
        try clear c2
        try clear p2
        try clear c3
        try clear c5
        try clear c6
        try clear c6b0
        try clear c10
        try clear c12
        obtain ⟨kq, x23_7, rfl, HA, HJ7, HB⟩ := hcut
        cases kq with
        | zero => exact absurd HA.out (by simp [scale_Utc.j0])
        | succ kj7 =>
          have H := HA.out
          clear HA
          simp only [scale_Utc.j0] at H
          by_cases c17 : x23_7 = true
          · subst c17
            have H1 : (some (0, 0, 10)) = some (r1, r2, r3) := by rw [if_pos rfl] at H; exact H
            clear H
            have H := H1
            clear H1
            simp only [Option.some.injEq, Prod.mk.injEq] at H
            obtain ⟨rfl, rfl, rfl⟩ := H
            go_wp2
            go_ret3
            exact ⟨by first | rfl | (simp [errW_none, errW_some] <;> rfl) | (simp [*, errW_none, errW_some] <;> rfl), by repeat (first | (with_reducible first | exact HB.out | apply below_alloc | apply pw_below_drewN | apply below_drew1) | exact HB.out)⟩
          · replace c17 := Bool.eq_false_iff.mpr c17
            subst c17
            have H1 : (if t196 = true then ((record_Sum.f kj7 l0 t195).bind fun t200 => ((num_Sub.f t195 t200).bind fun bt201 => ((num_Div.f bt201.1 86400).bind fun bt203 => ((record_Step.f kj7 l0 t195).bind fun t206 => (if t206 > 0 then (if bt201.2 = true then (if bt203.1 > 2932896 then (some (0, 0, 9)) else (some (bt203.1, wrap64 (bt203.2.1 + 1), 0))) else (some (0, 0, 9))) else (if bt201.2 = true then (if bt203.1 > 2932896 then (some (0, 0, 9)) else (some (bt203.1, bt203.2.1, 0))) else (some (0, 0, 9)))))))) else (some (0, 0, 9))) = some (r1, r2, r3) := by rw [if_neg (show ¬ (false = true) by decide)] at H; exact H
            clear H
            have H := H1
            clear H1
            by_cases c18 : t196 = true
            · subst c18
              have H1 : ((record_Sum.f kj7 l0 t195).bind fun t200 => ((num_Sub.f t195 t200).bind fun bt201 => ((num_Div.f bt201.1 86400).bind fun bt203 => ((record_Step.f kj7 l0 t195).bind fun t206 => (if t206 > 0 then (if bt201.2 = true then (if bt203.1 > 2932896 then (some (0, 0, 9)) else (some (bt203.1, wrap64 (bt203.2.1 + 1), 0))) else (some (0, 0, 9))) else (if bt201.2 = true then (if bt203.1 > 2932896 then (some (0, 0, 9)) else (some (bt203.1, bt203.2.1, 0))) else (some (0, 0, 9)))))))) = some (r1, r2, r3) := by rw [if_pos rfl] at H; exact H
              clear H
              have H := H1
              clear H1
              replace H := Option.bind_eq_some_iff.mp H
              obtain ⟨t200, A190, H⟩ := H
              replace H : ((num_Sub.f t195 t200).bind fun bt201 => ((num_Div.f bt201.1 86400).bind fun bt203 => ((record_Step.f kj7 l0 t195).bind fun t206 => (if t206 > 0 then (if bt201.2 = true then (if bt203.1 > 2932896 then (some (0, 0, 9)) else (some (bt203.1, wrap64 (bt203.2.1 + 1), 0))) else (some (0, 0, 9))) else (if bt201.2 = true then (if bt203.1 > 2932896 then (some (0, 0, 9)) else (some (bt203.1, bt203.2.1, 0))) else (some (0, 0, 9))))))) = some (r1, r2, r3) := H
              have A19 := Aside0.mk A190
              clear A190
              replace H := Option.bind_eq_some_iff.mp H
              obtain ⟨⟨t201, t202⟩, A200, H⟩ := H
              replace H : ((num_Div.f t201 86400).bind fun bt203 => ((record_Step.f kj7 l0 t195).bind fun t206 => (if t206 > 0 then (if t202 = true then (if bt203.1 > 2932896 then (some (0, 0, 9)) else (some (bt203.1, wrap64 (bt203.2.1 + 1), 0))) else (some (0, 0, 9))) else (if t202 = true then (if bt203.1 > 2932896 then (some (0, 0, 9)) else (some (bt203.1, bt203.2.1, 0))) else (some (0, 0, 9)))))) = some (r1, r2, r3) := H
              have A20 := Aside0.mk A200
              clear A200
              replace H := Option.bind_eq_some_iff.mp H
              obtain ⟨⟨t203, t204, t205⟩, A210, H⟩ := H
              replace H : ((record_Step.f kj7 l0 t195).bind fun t206 => (if t206 > 0 then (if t202 = true then (if t203 > 2932896 then (some (0, 0, 9)) else (some (t203, wrap64 (t204 + 1), 0))) else (some (0, 0, 9))) else (if t202 = true then (if t203 > 2932896 then (some (0, 0, 9)) else (some (t203, t204, 0))) else (some (0, 0, 9))))) = some (r1, r2, r3) := H
              have A21 := Aside0.mk A210
              clear A210
              replace H := Option.bind_eq_some_iff.mp H
              obtain ⟨t206, A220, H⟩ := H
              replace H : (if t206 > 0 then (if t202 = true then (if t203 > 2932896 then (some (0, 0, 9)) else (some (t203, wrap64 (t204 + 1), 0))) else (some (0, 0, 9))) else (if t202 = true then (if t203 > 2932896 then (some (0, 0, 9)) else (some (t203, t204, 0))) else (some (0, 0, 9)))) = some (r1, r2, r3) := H
              have A22 := Aside0.mk A220
              clear A220
              by_cases c23 : t206 > 0
              · rw [if_pos c23] at H
                have c23b0 : decide (0 < t206) = true := decide_eq_true c23
                clear c23
                by_cases c24 : t202 = true
                · subst c24
                  have H1 : (if t203 > 2932896 then (some (0, 0, 9)) else (some (t203, wrap64 (t204 + 1), 0))) = some (r1, r2, r3) := by rw [if_pos rfl] at H; exact H
                  clear H
                  have H := H1
                  clear H1
                  by_cases c25 : t203 > 2932896
                  · rw [if_pos c25] at H
                    have c25b0 : decide (2932896 < t203) = true := decide_eq_true c25
                    clear c25
                    simp only [Option.some.injEq, Prod.mk.injEq] at H
                    obtain ⟨rfl, rfl, rfl⟩ := H
                    go_wp2_with (first | ((with_reducible refine gate_callee (f := 33) rfl ?_); refine goesL_ (some 45) rfl rfl Try.func33 (by kernel_rfl) rfl #[.slice A0 l0.length c0, .int .i64 t195] rfl (by (try simp only [List.map_toArray, List.map_cons, List.map_nil]); first | done | rfl | (simp only [List.length_drop, List.length_take]; rfl)) ?_; (with_reducible refine (record_Sum.calls kj7 _ _ l0 t195 t200 _ ?side1 ?side2 A19.out).mono ?_); (case side1 => repeat (first | exact (Kd.C_below HR0.out HB.out) | (with_reducible refine Kd.C_alloc ?_ _) | (with_reducible refine Kd.C_drewN ?_ _) | (with_reducible refine Kd.C_drew ?_))); (case side2 => exact HC0.out); rintro e w26 ⟨rfl, hb⟩; refine ⟨_, rfl, ?_⟩; have n0_ := Aside0.mk (below_step (by repeat (first | (with_reducible first | exact HB.out | apply below_alloc | apply pw_below_drewN | apply below_drew1) | exact HB.out)) hb); clear HB; have HB := n0_; clear n0_; (try clear hb); (try clear hb2); (try clear hk); (try clear hi)) | ((with_reducible refine gate_callee (f := 32) rfl ?_); refine goesL_ (some 46) rfl rfl Try.func32 (by kernel_rfl) rfl #[.int .i64 t195, .int .i64 t200] rfl (by (try simp only [List.map_toArray, List.map_cons, List.map_nil]); first | done | rfl | (simp only [List.length_drop, List.length_take]; rfl)) ?_; (with_reducible refine (num_Sub.calls t195 t200 t201 true _ A20.out).mono ?_); rintro e w' ⟨rfl, ⟨nd, rfl⟩⟩; refine ⟨_, rfl, ?_⟩) | ((with_reducible refine gate_callee (f := 23) rfl ?_); refine goesL_ (some 51) rfl rfl Try.func23 (by kernel_rfl) rfl #[.int .i64 t201, .int .i64 86400] rfl (by (try simp only [List.map_toArray, List.map_cons, List.map_nil]); first | done | rfl | (simp only [List.length_drop, List.length_take]; rfl)) ?_; (with_reducible refine (num_Div.calls t201 86400 t203 t204 t205 _ A21.out).mono ?_); rintro e w' ⟨rfl, ⟨nd, rfl⟩⟩; refine ⟨_, rfl, ?_⟩) | ((with_reducible refine gate_callee (f := 34) rfl ?_); refine goesL_ (some 57) rfl rfl Try.func34 (by kernel_rfl) rfl #[.slice A0 l0.length c0, .int .i64 t195] rfl (by (try simp only [List.map_toArray, List.map_cons, List.map_nil]); first | done | rfl | (simp only [List.length_drop, List.length_take]; rfl)) ?_; (with_reducible refine (record_Step.calls kj7 _ _ l0 t195 t206 _ ?side1 ?side2 A22.out).mono ?_); (case side1 => repeat (first | exact (Kd.C_below HR0.out (by repeat (first | (with_reducible first | exact HB.out | apply below_alloc | apply pw_below_drewN | apply below_drew1) | exact HB.out))) | (with_reducible refine Kd.C_alloc ?_ _) | (with_reducible refine Kd.C_drewN ?_ _) | (with_reducible refine Kd.C_drew ?_))); (case side2 => exact HC0.out); rintro e w27 ⟨rfl, hb⟩; refine ⟨_, rfl, ?_⟩; have n0_ := Aside0.mk (below_step (by repeat (first | (with_reducible first | exact HB.out | apply below_alloc | apply pw_below_drewN | apply below_drew1) | exact HB.out)) hb); clear HB; have HB := n0_; clear n0_; (try clear hb); (try clear hb2); (try clear hk); (try clear hi)))
                    go_ret3
                    exact ⟨by first | rfl | (simp [errW_none, errW_some] <;> rfl) | (simp [*, errW_none, errW_some] <;> rfl), by repeat (first | (with_reducible first | exact HB.out | apply below_alloc | apply pw_below_drewN | apply below_drew1) | exact HB.out)⟩
                  · rw [if_neg c25] at H
                    have c25b0 : decide (2932896 < t203) = false := decide_eq_false c25
                    clear c25
                    simp only [Option.some.injEq, Prod.mk.injEq] at H
                    obtain ⟨rfl, rfl, rfl⟩ := H
                    go_wp2_with (first | ((with_reducible refine gate_callee (f := 33) rfl ?_); refine goesL_ (some 45) rfl rfl Try.func33 (by kernel_rfl) rfl #[.slice A0 l0.length c0, .int .i64 t195] rfl (by (try simp only [List.map_toArray, List.map_cons, List.map_nil]); first | done | rfl | (simp only [List.length_drop, List.length_take]; rfl)) ?_; (with_reducible refine (record_Sum.calls kj7 _ _ l0 t195 t200 _ ?side1 ?side2 A19.out).mono ?_); (case side1 => repeat (first | exact (Kd.C_below HR0.out HB.out) | (with_reducible refine Kd.C_alloc ?_ _) | (with_reducible refine Kd.C_drewN ?_ _) | (with_reducible refine Kd.C_drew ?_))); (case side2 => exact HC0.out); rintro e w28 ⟨rfl, hb⟩; refine ⟨_, rfl, ?_⟩; have n0_ := Aside0.mk (below_step (by repeat (first | (with_reducible first | exact HB.out | apply below_alloc | apply pw_below_drewN | apply below_drew1) | exact HB.out)) hb); clear HB; have HB := n0_; clear n0_; (try clear hb); (try clear hb2); (try clear hk); (try clear hi)) | ((with_reducible refine gate_callee (f := 32) rfl ?_); refine goesL_ (some 46) rfl rfl Try.func32 (by kernel_rfl) rfl #[.int .i64 t195, .int .i64 t200] rfl (by (try simp only [List.map_toArray, List.map_cons, List.map_nil]); first | done | rfl | (simp only [List.length_drop, List.length_take]; rfl)) ?_; (with_reducible refine (num_Sub.calls t195 t200 t201 true _ A20.out).mono ?_); rintro e w' ⟨rfl, ⟨nd, rfl⟩⟩; refine ⟨_, rfl, ?_⟩) | ((with_reducible refine gate_callee (f := 23) rfl ?_); refine goesL_ (some 51) rfl rfl Try.func23 (by kernel_rfl) rfl #[.int .i64 t201, .int .i64 86400] rfl (by (try simp only [List.map_toArray, List.map_cons, List.map_nil]); first | done | rfl | (simp only [List.length_drop, List.length_take]; rfl)) ?_; (with_reducible refine (num_Div.calls t201 86400 t203 t204 t205 _ A21.out).mono ?_); rintro e w' ⟨rfl, ⟨nd, rfl⟩⟩; refine ⟨_, rfl, ?_⟩) | ((with_reducible refine gate_callee (f := 34) rfl ?_); refine goesL_ (some 57) rfl rfl Try.func34 (by kernel_rfl) rfl #[.slice A0 l0.length c0, .int .i64 t195] rfl (by (try simp only [List.map_toArray, List.map_cons, List.map_nil]); first | done | rfl | (simp only [List.length_drop, List.length_take]; rfl)) ?_; (with_reducible refine (record_Step.calls kj7 _ _ l0 t195 t206 _ ?side1 ?side2 A22.out).mono ?_); (case side1 => repeat (first | exact (Kd.C_below HR0.out (by repeat (first | (with_reducible first | exact HB.out | apply below_alloc | apply pw_below_drewN | apply below_drew1) | exact HB.out))) | (with_reducible refine Kd.C_alloc ?_ _) | (with_reducible refine Kd.C_drewN ?_ _) | (with_reducible refine Kd.C_drew ?_))); (case side2 => exact HC0.out); rintro e w29 ⟨rfl, hb⟩; refine ⟨_, rfl, ?_⟩; have n0_ := Aside0.mk (below_step (by repeat (first | (with_reducible first | exact HB.out | apply below_alloc | apply pw_below_drewN | apply below_drew1) | exact HB.out)) hb); clear HB; have HB := n0_; clear n0_; (try clear hb); (try clear hb2); (try clear hk); (try clear hi)))
                    go_ret3
                    exact ⟨by first | rfl | (simp [errW_none, errW_some] <;> rfl) | (simp [*, errW_none, errW_some] <;> rfl), by repeat (first | (with_reducible first | exact HB.out | apply below_alloc | apply pw_below_drewN | apply below_drew1) | exact HB.out)⟩
                · replace c24 := Bool.eq_false_iff.mpr c24
                  subst c24
                  have H1 : (some (0, 0, 9)) = some (r1, r2, r3) := by rw [if_neg (show ¬ (false = true) by decide)] at H; exact H
                  clear H
                  have H := H1
                  clear H1
                  simp only [Option.some.injEq, Prod.mk.injEq] at H
                  obtain ⟨rfl, rfl, rfl⟩ := H
                  go_wp2_with (first | ((with_reducible refine gate_callee (f := 33) rfl ?_); refine goesL_ (some 45) rfl rfl Try.func33 (by kernel_rfl) rfl #[.slice A0 l0.length c0, .int .i64 t195] rfl (by (try simp only [List.map_toArray, List.map_cons, List.map_nil]); first | done | rfl | (simp only [List.length_drop, List.length_take]; rfl)) ?_; (with_reducible refine (record_Sum.calls kj7 _ _ l0 t195 t200 _ ?side1 ?side2 A19.out).mono ?_); (case side1 => repeat (first | exact (Kd.C_below HR0.out HB.out) | (with_reducible refine Kd.C_alloc ?_ _) | (with_reducible refine Kd.C_drewN ?_ _) | (with_reducible refine Kd.C_drew ?_))); (case side2 => exact HC0.out); rintro e w30 ⟨rfl, hb⟩; refine ⟨_, rfl, ?_⟩; have n0_ := Aside0.mk (below_step (by repeat (first | (with_reducible first | exact HB.out | apply below_alloc | apply pw_below_drewN | apply below_drew1) | exact HB.out)) hb); clear HB; have HB := n0_; clear n0_; (try clear hb); (try clear hb2); (try clear hk); (try clear hi)) | ((with_reducible refine gate_callee (f := 32) rfl ?_); refine goesL_ (some 46) rfl rfl Try.func32 (by kernel_rfl) rfl #[.int .i64 t195, .int .i64 t200] rfl (by (try simp only [List.map_toArray, List.map_cons, List.map_nil]); first | done | rfl | (simp only [List.length_drop, List.length_take]; rfl)) ?_; (with_reducible refine (num_Sub.calls t195 t200 t201 false _ A20.out).mono ?_); rintro e w' ⟨rfl, ⟨nd, rfl⟩⟩; refine ⟨_, rfl, ?_⟩) | ((with_reducible refine gate_callee (f := 23) rfl ?_); refine goesL_ (some 51) rfl rfl Try.func23 (by kernel_rfl) rfl #[.int .i64 t201, .int .i64 86400] rfl (by (try simp only [List.map_toArray, List.map_cons, List.map_nil]); first | done | rfl | (simp only [List.length_drop, List.length_take]; rfl)) ?_; (with_reducible refine (num_Div.calls t201 86400 t203 t204 t205 _ A21.out).mono ?_); rintro e w' ⟨rfl, ⟨nd, rfl⟩⟩; refine ⟨_, rfl, ?_⟩) | ((with_reducible refine gate_callee (f := 34) rfl ?_); refine goesL_ (some 57) rfl rfl Try.func34 (by kernel_rfl) rfl #[.slice A0 l0.length c0, .int .i64 t195] rfl (by (try simp only [List.map_toArray, List.map_cons, List.map_nil]); first | done | rfl | (simp only [List.length_drop, List.length_take]; rfl)) ?_; (with_reducible refine (record_Step.calls kj7 _ _ l0 t195 t206 _ ?side1 ?side2 A22.out).mono ?_); (case side1 => repeat (first | exact (Kd.C_below HR0.out (by repeat (first | (with_reducible first | exact HB.out | apply below_alloc | apply pw_below_drewN | apply below_drew1) | exact HB.out))) | (with_reducible refine Kd.C_alloc ?_ _) | (with_reducible refine Kd.C_drewN ?_ _) | (with_reducible refine Kd.C_drew ?_))); (case side2 => exact HC0.out); rintro e w31 ⟨rfl, hb⟩; refine ⟨_, rfl, ?_⟩; have n0_ := Aside0.mk (below_step (by repeat (first | (with_reducible first | exact HB.out | apply below_alloc | apply pw_below_drewN | apply below_drew1) | exact HB.out)) hb); clear HB; have HB := n0_; clear n0_; (try clear hb); (try clear hb2); (try clear hk); (try clear hi)))
                  go_ret3
                  exact ⟨by first | rfl | (simp [errW_none, errW_some] <;> rfl) | (simp [*, errW_none, errW_some] <;> rfl), by repeat (first | (with_reducible first | exact HB.out | apply below_alloc | apply pw_below_drewN | apply below_drew1) | exact HB.out)⟩
              · rw [if_neg c23] at H
                have c23b0 : decide (0 < t206) = false := decide_eq_false c23
                clear c23
                by_cases c32 : t202 = true
                · subst c32
                  have H1 : (if t203 > 2932896 then (some (0, 0, 9)) else (some (t203, t204, 0))) = some (r1, r2, r3) := by rw [if_pos rfl] at H; exact H
                  clear H
                  have H := H1
                  clear H1
                  by_cases c33 : t203 > 2932896
                  · rw [if_pos c33] at H
                    have c33b0 : decide (2932896 < t203) = true := decide_eq_true c33
                    clear c33
                    simp only [Option.some.injEq, Prod.mk.injEq] at H
                    obtain ⟨rfl, rfl, rfl⟩ := H
                    go_wp2_with (first | ((with_reducible refine gate_callee (f := 33) rfl ?_); refine goesL_ (some 45) rfl rfl Try.func33 (by kernel_rfl) rfl #[.slice A0 l0.length c0, .int .i64 t195] rfl (by (try simp only [List.map_toArray, List.map_cons, List.map_nil]); first | done | rfl | (simp only [List.length_drop, List.length_take]; rfl)) ?_; (with_reducible refine (record_Sum.calls kj7 _ _ l0 t195 t200 _ ?side1 ?side2 A19.out).mono ?_); (case side1 => repeat (first | exact (Kd.C_below HR0.out HB.out) | (with_reducible refine Kd.C_alloc ?_ _) | (with_reducible refine Kd.C_drewN ?_ _) | (with_reducible refine Kd.C_drew ?_))); (case side2 => exact HC0.out); rintro e w34 ⟨rfl, hb⟩; refine ⟨_, rfl, ?_⟩; have n0_ := Aside0.mk (below_step (by repeat (first | (with_reducible first | exact HB.out | apply below_alloc | apply pw_below_drewN | apply below_drew1) | exact HB.out)) hb); clear HB; have HB := n0_; clear n0_; (try clear hb); (try clear hb2); (try clear hk); (try clear hi)) | ((with_reducible refine gate_callee (f := 32) rfl ?_); refine goesL_ (some 46) rfl rfl Try.func32 (by kernel_rfl) rfl #[.int .i64 t195, .int .i64 t200] rfl (by (try simp only [List.map_toArray, List.map_cons, List.map_nil]); first | done | rfl | (simp only [List.length_drop, List.length_take]; rfl)) ?_; (with_reducible refine (num_Sub.calls t195 t200 t201 true _ A20.out).mono ?_); rintro e w' ⟨rfl, ⟨nd, rfl⟩⟩; refine ⟨_, rfl, ?_⟩) | ((with_reducible refine gate_callee (f := 23) rfl ?_); refine goesL_ (some 51) rfl rfl Try.func23 (by kernel_rfl) rfl #[.int .i64 t201, .int .i64 86400] rfl (by (try simp only [List.map_toArray, List.map_cons, List.map_nil]); first | done | rfl | (simp only [List.length_drop, List.length_take]; rfl)) ?_; (with_reducible refine (num_Div.calls t201 86400 t203 t204 t205 _ A21.out).mono ?_); rintro e w' ⟨rfl, ⟨nd, rfl⟩⟩; refine ⟨_, rfl, ?_⟩) | ((with_reducible refine gate_callee (f := 34) rfl ?_); refine goesL_ (some 57) rfl rfl Try.func34 (by kernel_rfl) rfl #[.slice A0 l0.length c0, .int .i64 t195] rfl (by (try simp only [List.map_toArray, List.map_cons, List.map_nil]); first | done | rfl | (simp only [List.length_drop, List.length_take]; rfl)) ?_; (with_reducible refine (record_Step.calls kj7 _ _ l0 t195 t206 _ ?side1 ?side2 A22.out).mono ?_); (case side1 => repeat (first | exact (Kd.C_below HR0.out (by repeat (first | (with_reducible first | exact HB.out | apply below_alloc | apply pw_below_drewN | apply below_drew1) | exact HB.out))) | (with_reducible refine Kd.C_alloc ?_ _) | (with_reducible refine Kd.C_drewN ?_ _) | (with_reducible refine Kd.C_drew ?_))); (case side2 => exact HC0.out); rintro e w35 ⟨rfl, hb⟩; refine ⟨_, rfl, ?_⟩; have n0_ := Aside0.mk (below_step (by repeat (first | (with_reducible first | exact HB.out | apply below_alloc | apply pw_below_drewN | apply below_drew1) | exact HB.out)) hb); clear HB; have HB := n0_; clear n0_; (try clear hb); (try clear hb2); (try clear hk); (try clear hi)))
                    go_ret3
                    exact ⟨by first | rfl | (simp [errW_none, errW_some] <;> rfl) | (simp [*, errW_none, errW_some] <;> rfl), by repeat (first | (with_reducible first | exact HB.out | apply below_alloc | apply pw_below_drewN | apply below_drew1) | exact HB.out)⟩
                  · rw [if_neg c33] at H
                    have c33b0 : decide (2932896 < t203) = false := decide_eq_false c33
                    clear c33
                    simp only [Option.some.injEq, Prod.mk.injEq] at H
                    obtain ⟨rfl, rfl, rfl⟩ := H
                    go_wp2_with (first | ((with_reducible refine gate_callee (f := 33) rfl ?_); refine goesL_ (some 45) rfl rfl Try.func33 (by kernel_rfl) rfl #[.slice A0 l0.length c0, .int .i64 t195] rfl (by (try simp only [List.map_toArray, List.map_cons, List.map_nil]); first | done | rfl | (simp only [List.length_drop, List.length_take]; rfl)) ?_; (with_reducible refine (record_Sum.calls kj7 _ _ l0 t195 t200 _ ?side1 ?side2 A19.out).mono ?_); (case side1 => repeat (first | exact (Kd.C_below HR0.out HB.out) | (with_reducible refine Kd.C_alloc ?_ _) | (with_reducible refine Kd.C_drewN ?_ _) | (with_reducible refine Kd.C_drew ?_))); (case side2 => exact HC0.out); rintro e w36 ⟨rfl, hb⟩; refine ⟨_, rfl, ?_⟩; have n0_ := Aside0.mk (below_step (by repeat (first | (with_reducible first | exact HB.out | apply below_alloc | apply pw_below_drewN | apply below_drew1) | exact HB.out)) hb); clear HB; have HB := n0_; clear n0_; (try clear hb); (try clear hb2); (try clear hk); (try clear hi)) | ((with_reducible refine gate_callee (f := 32) rfl ?_); refine goesL_ (some 46) rfl rfl Try.func32 (by kernel_rfl) rfl #[.int .i64 t195, .int .i64 t200] rfl (by (try simp only [List.map_toArray, List.map_cons, List.map_nil]); first | done | rfl | (simp only [List.length_drop, List.length_take]; rfl)) ?_; (with_reducible refine (num_Sub.calls t195 t200 t201 true _ A20.out).mono ?_); rintro e w' ⟨rfl, ⟨nd, rfl⟩⟩; refine ⟨_, rfl, ?_⟩) | ((with_reducible refine gate_callee (f := 23) rfl ?_); refine goesL_ (some 51) rfl rfl Try.func23 (by kernel_rfl) rfl #[.int .i64 t201, .int .i64 86400] rfl (by (try simp only [List.map_toArray, List.map_cons, List.map_nil]); first | done | rfl | (simp only [List.length_drop, List.length_take]; rfl)) ?_; (with_reducible refine (num_Div.calls t201 86400 t203 t204 t205 _ A21.out).mono ?_); rintro e w' ⟨rfl, ⟨nd, rfl⟩⟩; refine ⟨_, rfl, ?_⟩) | ((with_reducible refine gate_callee (f := 34) rfl ?_); refine goesL_ (some 57) rfl rfl Try.func34 (by kernel_rfl) rfl #[.slice A0 l0.length c0, .int .i64 t195] rfl (by (try simp only [List.map_toArray, List.map_cons, List.map_nil]); first | done | rfl | (simp only [List.length_drop, List.length_take]; rfl)) ?_; (with_reducible refine (record_Step.calls kj7 _ _ l0 t195 t206 _ ?side1 ?side2 A22.out).mono ?_); (case side1 => repeat (first | exact (Kd.C_below HR0.out (by repeat (first | (with_reducible first | exact HB.out | apply below_alloc | apply pw_below_drewN | apply below_drew1) | exact HB.out))) | (with_reducible refine Kd.C_alloc ?_ _) | (with_reducible refine Kd.C_drewN ?_ _) | (with_reducible refine Kd.C_drew ?_))); (case side2 => exact HC0.out); rintro e w37 ⟨rfl, hb⟩; refine ⟨_, rfl, ?_⟩; have n0_ := Aside0.mk (below_step (by repeat (first | (with_reducible first | exact HB.out | apply below_alloc | apply pw_below_drewN | apply below_drew1) | exact HB.out)) hb); clear HB; have HB := n0_; clear n0_; (try clear hb); (try clear hb2); (try clear hk); (try clear hi)))
                    go_ret3
                    exact ⟨by first | rfl | (simp [errW_none, errW_some] <;> rfl) | (simp [*, errW_none, errW_some] <;> rfl), by repeat (first | (with_reducible first | exact HB.out | apply below_alloc | apply pw_below_drewN | apply below_drew1) | exact HB.out)⟩
                · replace c32 := Bool.eq_false_iff.mpr c32
                  subst c32
                  have H1 : (some (0, 0, 9)) = some (r1, r2, r3) := by rw [if_neg (show ¬ (false = true) by decide)] at H; exact H
                  clear H
                  have H := H1
                  clear H1
                  simp only [Option.some.injEq, Prod.mk.injEq] at H
                  obtain ⟨rfl, rfl, rfl⟩ := H
                  go_wp2_with (first | ((with_reducible refine gate_callee (f := 33) rfl ?_); refine goesL_ (some 45) rfl rfl Try.func33 (by kernel_rfl) rfl #[.slice A0 l0.length c0, .int .i64 t195] rfl (by (try simp only [List.map_toArray, List.map_cons, List.map_nil]); first | done | rfl | (simp only [List.length_drop, List.length_take]; rfl)) ?_; (with_reducible refine (record_Sum.calls kj7 _ _ l0 t195 t200 _ ?side1 ?side2 A19.out).mono ?_); (case side1 => repeat (first | exact (Kd.C_below HR0.out HB.out) | (with_reducible refine Kd.C_alloc ?_ _) | (with_reducible refine Kd.C_drewN ?_ _) | (with_reducible refine Kd.C_drew ?_))); (case side2 => exact HC0.out); rintro e w38 ⟨rfl, hb⟩; refine ⟨_, rfl, ?_⟩; have n0_ := Aside0.mk (below_step (by repeat (first | (with_reducible first | exact HB.out | apply below_alloc | apply pw_below_drewN | apply below_drew1) | exact HB.out)) hb); clear HB; have HB := n0_; clear n0_; (try clear hb); (try clear hb2); (try clear hk); (try clear hi)) | ((with_reducible refine gate_callee (f := 32) rfl ?_); refine goesL_ (some 46) rfl rfl Try.func32 (by kernel_rfl) rfl #[.int .i64 t195, .int .i64 t200] rfl (by (try simp only [List.map_toArray, List.map_cons, List.map_nil]); first | done | rfl | (simp only [List.length_drop, List.length_take]; rfl)) ?_; (with_reducible refine (num_Sub.calls t195 t200 t201 false _ A20.out).mono ?_); rintro e w' ⟨rfl, ⟨nd, rfl⟩⟩; refine ⟨_, rfl, ?_⟩) | ((with_reducible refine gate_callee (f := 23) rfl ?_); refine goesL_ (some 51) rfl rfl Try.func23 (by kernel_rfl) rfl #[.int .i64 t201, .int .i64 86400] rfl (by (try simp only [List.map_toArray, List.map_cons, List.map_nil]); first | done | rfl | (simp only [List.length_drop, List.length_take]; rfl)) ?_; (with_reducible refine (num_Div.calls t201 86400 t203 t204 t205 _ A21.out).mono ?_); rintro e w' ⟨rfl, ⟨nd, rfl⟩⟩; refine ⟨_, rfl, ?_⟩) | ((with_reducible refine gate_callee (f := 34) rfl ?_); refine goesL_ (some 57) rfl rfl Try.func34 (by kernel_rfl) rfl #[.slice A0 l0.length c0, .int .i64 t195] rfl (by (try simp only [List.map_toArray, List.map_cons, List.map_nil]); first | done | rfl | (simp only [List.length_drop, List.length_take]; rfl)) ?_; (with_reducible refine (record_Step.calls kj7 _ _ l0 t195 t206 _ ?side1 ?side2 A22.out).mono ?_); (case side1 => repeat (first | exact (Kd.C_below HR0.out (by repeat (first | (with_reducible first | exact HB.out | apply below_alloc | apply pw_below_drewN | apply below_drew1) | exact HB.out))) | (with_reducible refine Kd.C_alloc ?_ _) | (with_reducible refine Kd.C_drewN ?_ _) | (with_reducible refine Kd.C_drew ?_))); (case side2 => exact HC0.out); rintro e w39 ⟨rfl, hb⟩; refine ⟨_, rfl, ?_⟩; have n0_ := Aside0.mk (below_step (by repeat (first | (with_reducible first | exact HB.out | apply below_alloc | apply pw_below_drewN | apply below_drew1) | exact HB.out)) hb); clear HB; have HB := n0_; clear n0_; (try clear hb); (try clear hb2); (try clear hk); (try clear hi)))
                  go_ret3
                  exact ⟨by first | rfl | (simp [errW_none, errW_some] <;> rfl) | (simp [*, errW_none, errW_some] <;> rfl), by repeat (first | (with_reducible first | exact HB.out | apply below_alloc | apply pw_below_drewN | apply below_drew1) | exact HB.out)⟩
            · replace c18 := Bool.eq_false_iff.mpr c18
              subst c18
              have H1 : (some (0, 0, 9)) = some (r1, r2, r3) := by rw [if_neg (show ¬ (false = true) by decide)] at H; exact H
              clear H
              have H := H1
              clear H1
              simp only [Option.some.injEq, Prod.mk.injEq] at H
              obtain ⟨rfl, rfl, rfl⟩ := H
              go_wp2
              go_ret3
              exact ⟨by first | rfl | (simp [errW_none, errW_some] <;> rfl) | (simp [*, errW_none, errW_some] <;> rfl), by repeat (first | (with_reducible first | exact HB.out | apply below_alloc | apply pw_below_drewN | apply below_drew1) | exact HB.out)⟩
  · replace c5 := Bool.eq_false_iff.mpr c5
    subst c5
    have H1 : (some (0, 0, 1)) = some (r1, r2, r3) := by rw [if_neg (show ¬ (false = true) by decide)] at H; exact H
    clear H
    have H := H1
    clear H1
    simp only [Option.some.injEq, Prod.mk.injEq] at H
    obtain ⟨rfl, rfl, rfl⟩ := H
    go_enter Try.func22, Try.ntmps22
    go_wp2_with (first | ((with_reducible refine gate_callee (f := 30) rfl ?_); refine goesL_ (some 13) rfl rfl Try.func30 (by kernel_rfl) rfl #[.int .i64 a1, .int .i64 63072000] rfl (by (try simp only [List.map_toArray, List.map_cons, List.map_nil]); first | done | rfl | (simp only [List.length_drop, List.length_take]; rfl)) ?_; (with_reducible refine (num_Add.calls a1 63072000 t195 t196 _ A3.out).mono ?_); rintro e w' ⟨rfl, ⟨nd, rfl⟩⟩; refine ⟨_, rfl, ?_⟩) | ((with_reducible refine gate_callee (f := 28) rfl ?_); refine goesL_ (some 18) rfl rfl Try.func28 (by kernel_rfl) rfl #[.slice A0 l0.length c0] rfl (by (try simp only [List.map_toArray, List.map_cons, List.map_nil]); first | done | rfl | (simp only [List.length_drop, List.length_take]; rfl)) ?_; (with_reducible refine (scale_Known.calls k _ _ l0 false _ ?side1 ?side2 A4.out).mono ?_); (case side1 => repeat (first | exact HR0.out | (with_reducible refine Kd.C_alloc ?_ _) | (with_reducible refine Kd.C_drewN ?_ _) | (with_reducible refine Kd.C_drew ?_))); (case side2 => exact HC0.out); rintro e w40 ⟨rfl, hb⟩; refine ⟨_, rfl, ?_⟩; have n0_ := Aside0.mk (below_step (by repeat (first | (with_reducible first | exact HB.out | apply below_alloc | apply pw_below_drewN | apply below_drew1) | exact HB.out)) hb); clear HB; have HB := n0_; clear n0_; (try clear hb); (try clear hb2); (try clear hk); (try clear hi)))
    go_ret3
    exact ⟨by first | rfl | (simp [errW_none, errW_some] <;> rfl) | (simp [*, errW_none, errW_some] <;> rfl), by repeat (first | (with_reducible first | exact HB.out | apply below_alloc | apply pw_below_drewN | apply below_drew1) | exact HB.out)⟩

/-! ### posix_From: function 17 -/
def posix_From.f (k : Nat) (l0 : List (S40)) (a1 : Int) : Option (Int × Int) := (scale_Utc.f k l0 a1).bind fun bt207 => (if bt207.2.2 = 0 then ((posix_Of.f bt207.1 bt207.2.1).bind fun bt210 => (some (bt210.1, bt207.2.2))) else (some (0, bt207.2.2)))
theorem posix_From.mono : ∀ a0 a1 k, LeO (posix_From.f k a0 a1) (posix_From.f (k + 1) a0 a1) := by
  intro a0 a1 k
  unfold posix_From.f
  repeat' first
      | (with_reducible exact scale_Utc.mono _ _ _)
      | (with_reducible exact LeO.refl _)
      | (with_reducible exact LeO.none _)
      | (with_reducible refine LeO.ite ?_ ?_)
      | (with_reducible refine LeO.bind ?_ (fun _ => ?_))
      | exact scale_Utc.mono _ _ _
      | exact LeO.none _
      | refine LeO.ite ?_ ?_
      | refine LeO.bind ?_ (fun _ => ?_)
set_option maxHeartbeats 8000000 in
set_option maxRecDepth 100000 in
theorem posix_From.calls (k : Nat) (A0 : Option Addr) (c0 : Nat) (l0 : List (S40)) (a1 : Int) (r1 : Int) (r2 : Int) (w : World) (hr0 : Kd.C k40 w A0 l0.length l0) (hc0 : l0.length ≤ c0) (h : posix_From.f k l0 a1 = some (r1, r2)) :
    Calls Try.prog 17 #[.slice A0 l0.length c0, .int .i64 a1] w fun e w' => e = .returned (.tuple #[.int .i64 r1, .int .i64 r2]) ∧ Below w.heap.size w w' := by
  have HR0 := Aside0.mk hr0
  have HC0 := Aside0.mk hc0
  clear hr0 hc0
  have HB := Aside0.mk (Below.refl w.heap.size w)
  have H : ((scale_Utc.f k l0 a1).bind fun bt207 => (if bt207.2.2 = 0 then ((posix_Of.f bt207.1 bt207.2.1).bind fun bt210 => (some (bt210.1, bt207.2.2))) else (some (0, bt207.2.2)))) = some (r1, r2) := h
  clear h
  replace H := Option.bind_eq_some_iff.mp H
  obtain ⟨⟨t207, t208, t209⟩, A30, H⟩ := H
  replace H : (if t209 = 0 then ((posix_Of.f t207 t208).bind fun bt210 => (some (bt210.1, t209))) else (some (0, t209))) = some (r1, r2) := H
  have A3 := Aside0.mk A30
  clear A30
  by_cases c4 : t209 = 0
  · rw [if_pos c4] at H
    have c4b0 : (t209 == 0) = true := beq_iff_eq.mpr c4
    have c4b1 : (t209 != 0) = false := bne_eq_false_iff_eq.mpr c4
    clear c4
    replace H := Option.bind_eq_some_iff.mp H
    obtain ⟨⟨t210, t211⟩, A50, H⟩ := H
    replace H : (some (t210, t209)) = some (r1, r2) := H
    have A5 := Aside0.mk A50
    clear A50
    simp only [Option.some.injEq, Prod.mk.injEq] at H
    obtain ⟨rfl, rfl⟩ := H
    go_enter Try.func17, Try.ntmps17
    go_wp2_with (first | ((with_reducible refine gate_callee (f := 22) rfl ?_); refine goesL_ (some 11) rfl rfl Try.func22 (by kernel_rfl) rfl #[.slice A0 l0.length c0, .int .i64 a1] rfl (by (try simp only [List.map_toArray, List.map_cons, List.map_nil]); first | done | rfl | (simp only [List.length_drop, List.length_take]; rfl)) ?_; (with_reducible refine (scale_Utc.calls k _ _ l0 a1 t207 t208 t209 _ ?side1 ?side2 A3.out).mono ?_); (case side1 => repeat (first | exact HR0.out | (with_reducible refine Kd.C_alloc ?_ _) | (with_reducible refine Kd.C_drewN ?_ _) | (with_reducible refine Kd.C_drew ?_))); (case side2 => exact HC0.out); rintro e w6 ⟨rfl, hb⟩; refine ⟨_, rfl, ?_⟩; have n0_ := Aside0.mk (below_step (by repeat (first | (with_reducible first | exact HB.out | apply below_alloc | apply pw_below_drewN | apply below_drew1) | exact HB.out)) hb); clear HB; have HB := n0_; clear n0_; (try clear hb); (try clear hb2); (try clear hk); (try clear hi)) | ((with_reducible refine gate_callee (f := 9) rfl ?_); refine goesL_ (some 20) rfl rfl Try.func9 (by kernel_rfl) rfl #[.int .i64 t207, .int .i64 t208] rfl (by (try simp only [List.map_toArray, List.map_cons, List.map_nil]); first | done | rfl | (simp only [List.length_drop, List.length_take]; rfl)) ?_; (with_reducible refine (posix_Of.calls t207 t208 t210 t211 _ A5.out).mono ?_); rintro e w7 ⟨rfl, hb⟩; refine ⟨_, rfl, ?_⟩; have n0_ := Aside0.mk (below_step (by repeat (first | (with_reducible first | exact HB.out | apply below_alloc | apply pw_below_drewN | apply below_drew1) | exact HB.out)) hb); clear HB; have HB := n0_; clear n0_; (try clear hb); (try clear hb2); (try clear hk); (try clear hi)))
    go_ret2
    exact ⟨by first | rfl | (simp [errW_none, errW_some] <;> rfl) | (simp [*, errW_none, errW_some] <;> rfl), by repeat (first | (with_reducible first | exact HB.out | apply below_alloc | apply pw_below_drewN | apply below_drew1) | exact HB.out)⟩
  · rw [if_neg c4] at H
    have c4b0 : (t209 == 0) = false := beq_eq_false_iff_ne.mpr c4
    have c4b1 : (t209 != 0) = true := bne_iff_ne.mpr c4
    simp only [Option.some.injEq, Prod.mk.injEq] at H
    obtain ⟨rfl, rfl⟩ := H
    go_enter Try.func17, Try.ntmps17
    go_wp2_with (first | ((with_reducible refine gate_callee (f := 22) rfl ?_); refine goesL_ (some 11) rfl rfl Try.func22 (by kernel_rfl) rfl #[.slice A0 l0.length c0, .int .i64 a1] rfl (by (try simp only [List.map_toArray, List.map_cons, List.map_nil]); first | done | rfl | (simp only [List.length_drop, List.length_take]; rfl)) ?_; (with_reducible refine (scale_Utc.calls k _ _ l0 a1 t207 t208 t209 _ ?side1 ?side2 A3.out).mono ?_); (case side1 => repeat (first | exact HR0.out | (with_reducible refine Kd.C_alloc ?_ _) | (with_reducible refine Kd.C_drewN ?_ _) | (with_reducible refine Kd.C_drew ?_))); (case side2 => exact HC0.out); rintro e w8 ⟨rfl, hb⟩; refine ⟨_, rfl, ?_⟩; have n0_ := Aside0.mk (below_step (by repeat (first | (with_reducible first | exact HB.out | apply below_alloc | apply pw_below_drewN | apply below_drew1) | exact HB.out)) hb); clear HB; have HB := n0_; clear n0_; (try clear hb); (try clear hb2); (try clear hk); (try clear hi)))
    go_ret2
    exact ⟨by first | rfl | (simp [errW_none, errW_some] <;> rfl) | (simp [*, errW_none, errW_some] <;> rfl), by repeat (first | (with_reducible first | exact HB.out | apply below_alloc | apply pw_below_drewN | apply below_drew1) | exact HB.out)⟩

/-! ### posix_Twice: function 19 -/
def posix_Twice.f (k : Nat) (l0 : List (S40)) (a1 : Int) : Option (Bool × Int) := (posix_Tai.f k l0 a1).bind fun bt212 => (if bt212.2 = 0 then ((posix_From.f k l0 (wrap64 (bt212.1 + 1))).bind fun bt214 => (if bt214.2 = 0 then (some ((bt214.1 == a1), 0)) else (some (false, 0)))) else (some (false, bt212.2)))
theorem posix_Twice.mono : ∀ a0 a1 k, LeO (posix_Twice.f k a0 a1) (posix_Twice.f (k + 1) a0 a1) := by
  intro a0 a1 k
  unfold posix_Twice.f
  repeat' first
      | (with_reducible exact posix_From.mono _ _ _)
      | (with_reducible exact posix_Tai.mono _ _ _)
      | (with_reducible exact LeO.refl _)
      | (with_reducible exact LeO.none _)
      | (with_reducible refine LeO.ite ?_ ?_)
      | (with_reducible refine LeO.bind ?_ (fun _ => ?_))
      | exact posix_From.mono _ _ _
      | exact posix_Tai.mono _ _ _
      | exact LeO.none _
      | refine LeO.ite ?_ ?_
      | refine LeO.bind ?_ (fun _ => ?_)
set_option maxHeartbeats 8000000 in
set_option maxRecDepth 100000 in
theorem posix_Twice.calls (k : Nat) (A0 : Option Addr) (c0 : Nat) (l0 : List (S40)) (a1 : Int) (r1 : Bool) (r2 : Int) (w : World) (hr0 : Kd.C k40 w A0 l0.length l0) (hc0 : l0.length ≤ c0) (h : posix_Twice.f k l0 a1 = some (r1, r2)) :
    Calls Try.prog 19 #[.slice A0 l0.length c0, .int .i64 a1] w fun e w' => e = .returned (.tuple #[.bool r1, .int .i64 r2]) ∧ Below w.heap.size w w' := by
  have HR0 := Aside0.mk hr0
  have HC0 := Aside0.mk hc0
  clear hr0 hc0
  have HB := Aside0.mk (Below.refl w.heap.size w)
  have H : ((posix_Tai.f k l0 a1).bind fun bt212 => (if bt212.2 = 0 then ((posix_From.f k l0 (wrap64 (bt212.1 + 1))).bind fun bt214 => (if bt214.2 = 0 then (some ((bt214.1 == a1), 0)) else (some (false, 0)))) else (some (false, bt212.2)))) = some (r1, r2) := h
  clear h
  replace H := Option.bind_eq_some_iff.mp H
  obtain ⟨⟨t212, t213⟩, A30, H⟩ := H
  replace H : (if t213 = 0 then ((posix_From.f k l0 (wrap64 (t212 + 1))).bind fun bt214 => (if bt214.2 = 0 then (some ((bt214.1 == a1), 0)) else (some (false, 0)))) else (some (false, t213))) = some (r1, r2) := H
  have A3 := Aside0.mk A30
  clear A30
  by_cases c4 : t213 = 0
  · rw [if_pos c4] at H
    have c4b0 : (t213 == 0) = true := beq_iff_eq.mpr c4
    have c4b1 : (t213 != 0) = false := bne_eq_false_iff_eq.mpr c4
    clear c4
    replace H := Option.bind_eq_some_iff.mp H
    obtain ⟨⟨t214, t215⟩, A50, H⟩ := H
    replace H : (if t215 = 0 then (some ((t214 == a1), 0)) else (some (false, 0))) = some (r1, r2) := H
    have A5 := Aside0.mk A50
    clear A50
    by_cases c6 : t215 = 0
    · rw [if_pos c6] at H
      have c6b0 : (t215 == 0) = true := beq_iff_eq.mpr c6
      have c6b1 : (t215 != 0) = false := bne_eq_false_iff_eq.mpr c6
      clear c6
      simp only [Option.some.injEq, Prod.mk.injEq] at H
      obtain ⟨rfl, rfl⟩ := H
      go_enter Try.func19, Try.ntmps19
      go_wp2_with (first | ((with_reducible refine gate_callee (f := 15) rfl ?_); refine goesL_ (some 13) rfl rfl Try.func15 (by kernel_rfl) rfl #[.slice A0 l0.length c0, .int .i64 a1] rfl (by (try simp only [List.map_toArray, List.map_cons, List.map_nil]); first | done | rfl | (simp only [List.length_drop, List.length_take]; rfl)) ?_; (with_reducible refine (posix_Tai.calls k _ _ l0 a1 t212 t213 _ ?side1 ?side2 A3.out).mono ?_); (case side1 => repeat (first | exact HR0.out | (with_reducible refine Kd.C_alloc ?_ _) | (with_reducible refine Kd.C_drewN ?_ _) | (with_reducible refine Kd.C_drew ?_))); (case side2 => exact HC0.out); rintro e w7 ⟨rfl, hb⟩; refine ⟨_, rfl, ?_⟩; have n0_ := Aside0.mk (below_step (by repeat (first | (with_reducible first | exact HB.out | apply below_alloc | apply pw_below_drewN | apply below_drew1) | exact HB.out)) hb); clear HB; have HB := n0_; clear n0_; (try clear hb); (try clear hb2); (try clear hk); (try clear hi)) | ((with_reducible refine gate_callee (f := 17) rfl ?_); refine goesL_ (some 23) rfl rfl Try.func17 (by kernel_rfl) rfl #[.slice A0 l0.length c0, .int .i64 (wrap64 (t212 + 1))] rfl (by (try simp only [List.map_toArray, List.map_cons, List.map_nil]); first | done | rfl | (simp only [List.length_drop, List.length_take]; rfl)) ?_; (with_reducible refine (posix_From.calls k _ _ l0 (wrap64 (t212 + 1)) t214 t215 _ ?side1 ?side2 A5.out).mono ?_); (case side1 => repeat (first | exact (Kd.C_below HR0.out HB.out) | (with_reducible refine Kd.C_alloc ?_ _) | (with_reducible refine Kd.C_drewN ?_ _) | (with_reducible refine Kd.C_drew ?_))); (case side2 => exact HC0.out); rintro e w8 ⟨rfl, hb⟩; refine ⟨_, rfl, ?_⟩; have n0_ := Aside0.mk (below_step (by repeat (first | (with_reducible first | exact HB.out | apply below_alloc | apply pw_below_drewN | apply below_drew1) | exact HB.out)) hb); clear HB; have HB := n0_; clear n0_; (try clear hb); (try clear hb2); (try clear hk); (try clear hi)))
      go_ret2
      exact ⟨by first | rfl | (simp [errW_none, errW_some] <;> rfl) | (simp [*, errW_none, errW_some] <;> rfl), by repeat (first | (with_reducible first | exact HB.out | apply below_alloc | apply pw_below_drewN | apply below_drew1) | exact HB.out)⟩
    · rw [if_neg c6] at H
      have c6b0 : (t215 == 0) = false := beq_eq_false_iff_ne.mpr c6
      have c6b1 : (t215 != 0) = true := bne_iff_ne.mpr c6
      simp only [Option.some.injEq, Prod.mk.injEq] at H
      obtain ⟨rfl, rfl⟩ := H
      go_enter Try.func19, Try.ntmps19
      go_wp2_with (first | ((with_reducible refine gate_callee (f := 15) rfl ?_); refine goesL_ (some 13) rfl rfl Try.func15 (by kernel_rfl) rfl #[.slice A0 l0.length c0, .int .i64 a1] rfl (by (try simp only [List.map_toArray, List.map_cons, List.map_nil]); first | done | rfl | (simp only [List.length_drop, List.length_take]; rfl)) ?_; (with_reducible refine (posix_Tai.calls k _ _ l0 a1 t212 t213 _ ?side1 ?side2 A3.out).mono ?_); (case side1 => repeat (first | exact HR0.out | (with_reducible refine Kd.C_alloc ?_ _) | (with_reducible refine Kd.C_drewN ?_ _) | (with_reducible refine Kd.C_drew ?_))); (case side2 => exact HC0.out); rintro e w9 ⟨rfl, hb⟩; refine ⟨_, rfl, ?_⟩; have n0_ := Aside0.mk (below_step (by repeat (first | (with_reducible first | exact HB.out | apply below_alloc | apply pw_below_drewN | apply below_drew1) | exact HB.out)) hb); clear HB; have HB := n0_; clear n0_; (try clear hb); (try clear hb2); (try clear hk); (try clear hi)) | ((with_reducible refine gate_callee (f := 17) rfl ?_); refine goesL_ (some 23) rfl rfl Try.func17 (by kernel_rfl) rfl #[.slice A0 l0.length c0, .int .i64 (wrap64 (t212 + 1))] rfl (by (try simp only [List.map_toArray, List.map_cons, List.map_nil]); first | done | rfl | (simp only [List.length_drop, List.length_take]; rfl)) ?_; (with_reducible refine (posix_From.calls k _ _ l0 (wrap64 (t212 + 1)) t214 t215 _ ?side1 ?side2 A5.out).mono ?_); (case side1 => repeat (first | exact (Kd.C_below HR0.out HB.out) | (with_reducible refine Kd.C_alloc ?_ _) | (with_reducible refine Kd.C_drewN ?_ _) | (with_reducible refine Kd.C_drew ?_))); (case side2 => exact HC0.out); rintro e w10 ⟨rfl, hb⟩; refine ⟨_, rfl, ?_⟩; have n0_ := Aside0.mk (below_step (by repeat (first | (with_reducible first | exact HB.out | apply below_alloc | apply pw_below_drewN | apply below_drew1) | exact HB.out)) hb); clear HB; have HB := n0_; clear n0_; (try clear hb); (try clear hb2); (try clear hk); (try clear hi)))
      go_ret2
      exact ⟨by first | rfl | (simp [errW_none, errW_some] <;> rfl) | (simp [*, errW_none, errW_some] <;> rfl), by repeat (first | (with_reducible first | exact HB.out | apply below_alloc | apply pw_below_drewN | apply below_drew1) | exact HB.out)⟩
  · rw [if_neg c4] at H
    have c4b0 : (t213 == 0) = false := beq_eq_false_iff_ne.mpr c4
    have c4b1 : (t213 != 0) = true := bne_iff_ne.mpr c4
    simp only [Option.some.injEq, Prod.mk.injEq] at H
    obtain ⟨rfl, rfl⟩ := H
    go_enter Try.func19, Try.ntmps19
    go_wp2_with (first | ((with_reducible refine gate_callee (f := 15) rfl ?_); refine goesL_ (some 13) rfl rfl Try.func15 (by kernel_rfl) rfl #[.slice A0 l0.length c0, .int .i64 a1] rfl (by (try simp only [List.map_toArray, List.map_cons, List.map_nil]); first | done | rfl | (simp only [List.length_drop, List.length_take]; rfl)) ?_; (with_reducible refine (posix_Tai.calls k _ _ l0 a1 t212 t213 _ ?side1 ?side2 A3.out).mono ?_); (case side1 => repeat (first | exact HR0.out | (with_reducible refine Kd.C_alloc ?_ _) | (with_reducible refine Kd.C_drewN ?_ _) | (with_reducible refine Kd.C_drew ?_))); (case side2 => exact HC0.out); rintro e w11 ⟨rfl, hb⟩; refine ⟨_, rfl, ?_⟩; have n0_ := Aside0.mk (below_step (by repeat (first | (with_reducible first | exact HB.out | apply below_alloc | apply pw_below_drewN | apply below_drew1) | exact HB.out)) hb); clear HB; have HB := n0_; clear n0_; (try clear hb); (try clear hb2); (try clear hk); (try clear hi)))
    go_ret2
    exact ⟨by first | rfl | (simp [errW_none, errW_some] <;> rfl) | (simp [*, errW_none, errW_some] <;> rfl), by repeat (first | (with_reducible first | exact HB.out | apply below_alloc | apply pw_below_drewN | apply below_drew1) | exact HB.out)⟩

end Go.Proofs.Ytlfnkamhokfeaaa.PAll
