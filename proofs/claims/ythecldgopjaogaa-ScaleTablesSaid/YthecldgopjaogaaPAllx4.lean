-- Written for this claim by wip/tools of this repo (after the kit's print; own contracts laid in).
import Derived.Test.YthecldgopjaogaaPAllx0
import Derived.Test.YthecldgopjaogaaPAllx1
import Derived.Test.YthecldgopjaogaaPAllx3
namespace Go.Proofs.Ythecldgopjaogaa.PAll
open Go.RowKit Go.Proofs.YthecldgopjaogaaW.PrintWords Go.Proofs.YthecldgopjaogaaW.PrintLast Go.Proofs.YthecldgopjaogaaW.PrintMore
attribute [local go_sem] max2_int min2_int max_two min_two max_three min_three max_four min_four   -- for this text's walks alone
set_option linter.unusedVariables false
set_option linter.unusedSimpArgs false

/-! ### record_Sum: function 28 -/
-- by hand: wip/hand
/-- are records in order? -/
def record_Sum.Asc (l : List S45) : Prop := l.Pairwise (fun x y => x.f0 ≤ y.f0)
instance (l : List S45) : Decidable (record_Sum.Asc l) := by unfold record_Sum.Asc; exact inferInstance
def record_Sum.f (k : Nat) (l0 : List (S45)) (a1 : Int) : Option (Int) := (record_leaps.f k l0).bind fun l =>
  if l.length < 4611686018427387904 ∧ record_Sum.Asc l then some (if l.countP (fun y => !decide (y.f0 > a1)) = 0 then 0 else (l.getD (l.countP (fun y => !decide (y.f0 > a1)) - 1) z45).f1) else none
theorem record_Sum.mono : ∀ a0 a1 k, LeO (record_Sum.f k a0 a1) (record_Sum.f (k + 1) a0 a1) := by
  intro a0 a1 k
  unfold record_Sum.f
  exact LeO.bind (record_leaps.mono _ _) (fun _ => LeO.refl _)
set_option maxHeartbeats 2000000 in
theorem record_Sum.clo (gt gd n c : Nat) (ad : Addr) (a1 x : Int) (i : Nat) (W : World) (hi : i < n)
    (h0 : W.cell? ⟨gt, 0, none⟩ = some (.slice (some ad) n c)) (hd : W.cell? ⟨gd, 0, none⟩ = some (.int .i64 a1)) (hc : W.cell? (ad.add (i * 2)) = some (.int .i64 x)) :
    Calls Try.prog 46 (#[.int .i64 i] ++ #[.pointer (some ⟨gt, 0, none⟩), .pointer (some ⟨gd, 0, none⟩)]) W fun e w' => e = .returned (.bool (decide (x > a1))) ∧ ∃ q, w' = W.drewN q := by
  have hiz : (i : Int) < (n : Int) := by omega
  have hu2 := Try.underlying45
  go_enter Try.func46, Try.ntmps46
  go_wp2
  go_region
  all_goals go_wp2
  all_goals go_ret
  all_goals exact ⟨by first | rfl | simp, 1, rfl⟩
theorem record_Sum.asc_at {l : List S45} (h : record_Sum.Asc l) (a b : Nat) (hab : a ≤ b) (hb : b < l.length) : (l.getD a z45).f0 ≤ (l.getD b z45).f0 := by
  have ha : a < l.length := by omega
  simp only [List.getD_eq_getElem?_getD, List.getElem?_eq_getElem ha, List.getElem?_eq_getElem hb, Option.getD_some]
  by_cases e : a = b
  · subst e; exact Int.le_refl _
  · exact List.pairwise_iff_getElem.mp h a b ha hb (by omega)
theorem record_Sum.count (l : List S45) (p : S45 → Bool) : (List.range l.length).countP (fun i => p (l.getD i z45)) = l.countP p := by
  have : l = (List.range l.length).map (fun i => l.getD i z45) := by
    apply List.ext_getElem
    · simp
    · intro i h1 h2; simp [h1]
  conv => rhs; rw [this, List.countP_map]
  rfl
open Go.Shelf Go.Sort in
theorem record_Sum.search (g0 g1 : Nat) (A : Option Addr) (c : Nat) (l : List (S45)) (a1 : Int) (W : World) (hC : Kd.C k45 W A l.length l) (hsz : l.length < 4611686018427387904) (hasc : record_Sum.Asc l)
    (h0 : W.cell? ⟨g0, 0, none⟩ = some (.slice A l.length c)) (h1 : W.cell? ⟨g1, 0, none⟩ = some (.int .i64 a1)) :
    Calls Try.prog 45 #[.int .i64 (l.length : Nat), .func (.func 46) #[] #[.pointer (some ⟨g0, 0, none⟩), .pointer (some ⟨g1, 0, none⟩)]] W
      fun e w' => e = .returned (.int .i64 ((l.countP (fun y => !decide (y.f0 > a1)) : Nat) : Int)) ∧ Below W.heap.size W w' := by
  have eg : ∀ args w, (callFunc 46 args).run Try.prog w = .ok (.enter 46 args) w := enters_of Try.func46 (by kernel_rfl) rfl
  have b0 := World.block_lt_of_cell? W _ h0
  have b1 := World.block_lt_of_cell? W _ h1
  have hS := Any.sort_Search Try.laysSearch 46 #[.pointer (some ⟨g0, 0, none⟩), .pointer (some ⟨g1, 0, none⟩)] l.length (fun i => decide ((l.getD i z45).f0 > a1)) W eg hsz
    (fun m os i hi => by
      obtain ⟨ad, rfl, hx, _⟩ := at_T45 hC (i : Int) (by omega) (by omega)
      have hx' : W.cell? (ad.add (i * 2)) = some (.int .i64 (l.getD i z45).f0) := by simpa [rd_T45] using hx
      have hlt := World.block_lt_of_cell? W _ hx'
      refine (record_Sum.clo g0 g1 l.length c ad a1 _ i _ hi (cell_grown b0 h0 m os) (cell_grown b1 h1 m os) (cell_grown hlt hx' m os)).mono ?_
      rintro _ _ ⟨he, q, hq⟩
      exact ⟨he, q, #[], by rw [hq, grow_empty]⟩)
    (fun a b hab hb hp => by have := record_Sum.asc_at hasc a b hab hb; simp only [decide_eq_true_eq] at hp ⊢; omega)
  rw [record_Sum.count l (fun y => !decide (y.f0 > a1))] at hS
  exact hS.mono fun e w' ⟨he, q, os, hw⟩ => ⟨he, by rw [hw]; exact below_grown_sl W.heap.size W q os (Nat.le_refl _)⟩
theorem record_Sum.mid (w W1 w2 : World) (A0 A : Option Addr) (c0 c n0 : Nat) (a1 : Int) (l : List (S45)) (HW : W1 = (w.alloc (.cells #[.slice A0 n0 c0] 22)).alloc (.cells #[.int .i64 a1] 3))
    (HB2 : Below W1.heap.size W1 w2) (HF : Kd.F k45 w2 (fun k_ => k_ < w.heap.size ∨ W1.heap.size ≤ k_) A l.length l) :
    ∃ W3, W3 = w2.setCell ⟨w.heap.size, 0, none⟩ (.slice A l.length c) ∧ Kd.F k45 W3 (fun k_ => k_ < w.heap.size ∨ W1.heap.size ≤ k_) A l.length l ∧
      W3.heap[w.heap.size]? = some (.cells #[.slice A l.length c] 22 (0, 0)) ∧ W3.heap[w.heap.size + 1]? = some (.cells #[.int .i64 a1] 3 (0, 0)) ∧ Below w.heap.size w W3 := by
  have hsize : W1.heap.size = w.heap.size + 1 + 1 := by rw [HW]; simp
  have b0 : W1.heap[w.heap.size]? = some (.cells #[.slice A0 n0 c0] 22 (0, 0)) := by rw [HW]; exact blk_alloc (blk_new _ _) _
  have b1 : W1.heap[w.heap.size + 1]? = some (.cells #[.int .i64 a1] 3 (0, 0)) := by
    rw [HW]
    have := blk_new (w.alloc (.cells #[.slice A0 n0 c0] 22)) (.cells #[.int .i64 a1] 3)
    rwa [World.size_alloc] at this
  have hB1 : Below w.heap.size w W1 := by rw [HW]; exact ((Below.refl _ w).alloc (Nat.le_refl _) _).alloc (by simp) _
  refine ⟨_, rfl, Kd.F_far (p := ⟨w.heap.size, 0, none⟩) HF (fun k hk => by show k ≠ w.heap.size; omega) _, blk_put (blk_below b0 HB2) 0 _ rfl, blk_far (p := ⟨w.heap.size, 0, none⟩) (blk_below b1 HB2) (by show w.heap.size + 1 ≠ w.heap.size; omega) _, ?_⟩
  exact below_set (below_step hB1 HB2) (Nat.le_refl _)
set_option maxHeartbeats 4000000 in
set_option maxRecDepth 100000 in
theorem record_Sum.calls (k : Nat) (A0 : Option Addr) (c0 : Nat) (l0 : List (S45)) (a1 : Int) (r : Int) (w : World) (hr0 : Kd.C k45 w A0 l0.length l0) (hc0 : l0.length ≤ c0) (h : record_Sum.f k l0 a1 = some r) :
    Calls Try.prog 28 #[.slice A0 l0.length c0, .int .i64 a1] w fun e w' => e = .returned (.int .i64 r) ∧ Below w.heap.size w w' := by
  unfold record_Sum.f at h
  obtain ⟨l, hl, h⟩ := Option.bind_eq_some_iff.mp h
  by_cases hs : l.length < 4611686018427387904 ∧ record_Sum.Asc l
  · rw [if_pos hs] at h
    obtain ⟨hsz, hasc⟩ := hs
    obtain ⟨W1, hW1⟩ : ∃ W1, W1 = (w.alloc (.cells #[.slice A0 l0.length c0] 22)).alloc (.cells #[.int .i64 a1] 3) := ⟨_, rfl⟩
    have hsize : W1.heap.size = w.heap.size + 1 + 1 := by rw [hW1]; simp
    have hB1 : Below w.heap.size w W1 := by rw [hW1]; exact ((Below.refl _ w).alloc (Nat.le_refl _) _).alloc (by simp) _
    have b0 : W1.heap[w.heap.size]? = some (.cells #[.slice A0 l0.length c0] 22 (0, 0)) := by rw [hW1]; exact blk_alloc (blk_new _ _) _
    have b1 : W1.heap[w.heap.size + 1]? = some (.cells #[.int .i64 a1] 3 (0, 0)) := by
      rw [hW1]
      have := blk_new (w.alloc (.cells #[.slice A0 l0.length c0] 22)) (.cells #[.int .i64 a1] 3)
      rwa [World.size_alloc] at this
    have hV : Kd.V k45 45 W1 W1.heap.size (fun k_ => k_ < w.heap.size) (.slice A0 l0.length c0) l0 := Kd.V_mk hc0 (Kd.F_below (Kd.C_F k45_heap hr0) hB1)
    have HL := Aside0.mk (record_leaps.calls k (fun k_ => k_ < w.heap.size) A0 c0 l0 l W1 hV hl)
    have HW := Aside0.mk hW1
    have HZ := Aside0.mk hsize
    have HB1 := Aside0.mk hB1
    have B0 := Aside0.mk b0
    have B1 := Aside0.mk b1
    have HS := Aside0.mk hsz
    have HA := Aside0.mk hasc
    clear hV hW1 hsize hB1 b0 b1 hsz hasc hr0 hc0 hl
    generalize hcnt : l.countP (fun y => !decide (y.f0 > a1)) = cnt at h
    have HCNT := Aside0.mk hcnt
    clear hcnt
    have hu2 := Try.underlying45
    by_cases hz : cnt = 0
    · rw [if_pos hz] at h
      obtain rfl := Option.some.inj h
      clear h
      have hcz : ((cnt : Int) == 0) = true := beq_iff_eq.mpr (by omega)
      have HCZ := Aside0.mk hz
      clear hz
      go_enter Try.func28, Try.ntmps28
      go_wp2_with (first | (go_at_call 44; rw [← HW.out]; refine HL.out.mono ?_; rintro e w2 ⟨v, rfl, hv, hb⟩; obtain ⟨A, c, rfl, hlc, hF⟩ := hv; have HF := Aside0.mk hF; have HB2 := Aside0.mk hb; have HLC := Aside0.mk hlc; have hcz0 : w2.cell? ⟨w.heap.size, 0, none⟩ = some (.slice A0 l0.length c0) := (blk_cell (blk_below B0.out HB2.out) 0).trans rfl; have hfz0 := blk_frozen (blk_below B0.out HB2.out) 0; have hcz1 : w2.cell? ⟨w.heap.size + 1, 0, none⟩ = some (.int .i64 a1) := (blk_cell (blk_below B1.out HB2.out) 0).trans rfl; clear hF hb hlc) | (go_at_call 45; obtain ⟨W3, hW3, hF3, hb30, hb31, hB3⟩ := record_Sum.mid w W1 w2 A0 A c0 c l0.length a1 l HW.out HB2.out HF.out; rw [← hW3]; refine (record_Sum.search w.heap.size (w.heap.size + 1) A c l a1 W3 (Kd.F_now hF3) HS.out HA.out ((blk_cell hb30 0).trans rfl) ((blk_cell hb31 0).trans rfl)).mono ?_; rintro e w4 ⟨rfl, hb4⟩; rw [HCNT.out]; have hB4 := Aside0.mk (below_step hB3 hb4); clear hW3 hF3 hb30 hb31 hB3 hb4))
      go_ret
      exact ⟨rfl, hB4.out⟩
    · rw [if_neg hz] at h
      obtain rfl := Option.some.inj h
      clear h
      obtain ⟨m, rfl⟩ : ∃ m, cnt = m + 1 := ⟨cnt - 1, by omega⟩
      have HM : Aside0 (m < l.length) := ⟨by have := List.countP_le_length (p := fun y => !decide (y.f0 > a1)) (l := l); have := HCNT.out; omega⟩
      have hcz : (((m + 1 : Nat) : Int) == 0) = false := beq_eq_false_iff_ne.mpr (by omega)
      have hwz : wrap64 (m : Int) = (m : Int) := by have := HM.out; have := HS.out; unfold wrap64; omega
      clear hz
      go_enter Try.func28, Try.ntmps28
      go_wp2_with (first | (go_at_call 44; rw [← HW.out]; refine HL.out.mono ?_; rintro e w2 ⟨v, rfl, hv, hb⟩; obtain ⟨A, c, rfl, hlc, hF⟩ := hv; have HF := Aside0.mk hF; have HB2 := Aside0.mk hb; have HLC := Aside0.mk hlc; have hcz0 : w2.cell? ⟨w.heap.size, 0, none⟩ = some (.slice A0 l0.length c0) := (blk_cell (blk_below B0.out HB2.out) 0).trans rfl; have hfz0 := blk_frozen (blk_below B0.out HB2.out) 0; have hcz1 : w2.cell? ⟨w.heap.size + 1, 0, none⟩ = some (.int .i64 a1) := (blk_cell (blk_below B1.out HB2.out) 0).trans rfl; clear hF hb hlc) | (go_at_call 45; obtain ⟨W3, hW3, hF3, hb30, hb31, hB3⟩ := record_Sum.mid w W1 w2 A0 A c0 c l0.length a1 l HW.out HB2.out HF.out; rw [← hW3]; refine (record_Sum.search w.heap.size (w.heap.size + 1) A c l a1 W3 (Kd.F_now hF3) HS.out HA.out ((blk_cell hb30 0).trans rfl) ((blk_cell hb31 0).trans rfl)).mono ?_; rintro e w4 ⟨rfl, hb4⟩; rw [HCNT.out]; have hB4 := Aside0.mk (below_step hB3 hb4); have hF4 := Kd.F_below hF3 hb4; obtain ⟨ad, rfl, hx0, hx1⟩ := at_T45 (Kd.F_now hF4) (m : Int) (by omega) (by have := HM.out; omega); simp only [Int.toNat_natCast] at hx0 hx1; have hcz4 : w4.cell? ⟨w.heap.size, 0, none⟩ = some (.slice (some ad) l.length c) := (blk_cell (blk_below hb30 hb4) 0).trans rfl; have hmz : (m : Int) < (l.length : Int) := (by have := HM.out; omega); have hmz0 : 0 ≤ (m : Int) := (by omega); clear hW3 hF3 hb30 hb31 hB3 hb4 hF4))
      go_ret
      exact ⟨by simp [rd_T45], hB4.out⟩
  · rw [if_neg hs] at h; exact absurd h (by simp)

/-! ### record_Step: function 30 -/
-- by hand: wip/hand
/-- are records in order? -/
def record_Step.Asc (l : List S45) : Prop := l.Pairwise (fun x y => x.f0 ≤ y.f0)
instance (l : List S45) : Decidable (record_Step.Asc l) := by unfold record_Step.Asc; exact inferInstance
/-- what is told of the place that the search finds -/
def record_Step.val (l : List S45) (a1 : Int) (n : Nat) : Int :=
  if n < l.length then (if (rd_T45 l n).f0 = a1 then (if n = 0 then (rd_T45 l 0).f1 else wrap64 ((rd_T45 l n).f1 - (rd_T45 l ((n : Int) - 1)).f1)) else 0) else 0
def record_Step.f (k : Nat) (l0 : List (S45)) (a1 : Int) : Option (Int) := (record_leaps.f k l0).bind fun l =>
  if l.length < 4611686018427387904 ∧ record_Step.Asc l then some (record_Step.val l a1 (l.countP (fun y => !decide (y.f0 ≥ a1)))) else none
theorem record_Step.mono : ∀ a0 a1 k, LeO (record_Step.f k a0 a1) (record_Step.f (k + 1) a0 a1) := by
  intro a0 a1 k
  unfold record_Step.f
  exact LeO.bind (record_leaps.mono _ _) (fun _ => LeO.refl _)
set_option maxHeartbeats 2000000 in
theorem record_Step.clo (gt gd n c : Nat) (ad : Addr) (a1 x : Int) (i : Nat) (W : World) (hi : i < n)
    (h0 : W.cell? ⟨gt, 0, none⟩ = some (.slice (some ad) n c)) (hd : W.cell? ⟨gd, 0, none⟩ = some (.int .i64 a1)) (hc : W.cell? (ad.add (i * 2)) = some (.int .i64 x)) :
    Calls Try.prog 47 (#[.int .i64 i] ++ #[.pointer (some ⟨gt, 0, none⟩), .pointer (some ⟨gd, 0, none⟩)]) W fun e w' => e = .returned (.bool (decide (x ≥ a1))) ∧ ∃ q, w' = W.drewN q := by
  have hiz : (i : Int) < (n : Int) := by omega
  have hu2 := Try.underlying45
  go_enter Try.func47, Try.ntmps47
  go_wp2
  go_region
  all_goals go_wp2
  all_goals go_ret
  all_goals exact ⟨by first | rfl | simp, 1, rfl⟩
theorem record_Step.asc_at {l : List S45} (h : record_Step.Asc l) (a b : Nat) (hab : a ≤ b) (hb : b < l.length) : (l.getD a z45).f0 ≤ (l.getD b z45).f0 := by
  have ha : a < l.length := by omega
  simp only [List.getD_eq_getElem?_getD, List.getElem?_eq_getElem ha, List.getElem?_eq_getElem hb, Option.getD_some]
  by_cases e : a = b
  · subst e; exact Int.le_refl _
  · exact List.pairwise_iff_getElem.mp h a b ha hb (by omega)
theorem record_Step.count (l : List S45) (p : S45 → Bool) : (List.range l.length).countP (fun i => p (l.getD i z45)) = l.countP p := by
  have : l = (List.range l.length).map (fun i => l.getD i z45) := by
    apply List.ext_getElem
    · simp
    · intro i h1 h2; simp [h1]
  conv => rhs; rw [this, List.countP_map]
  rfl
open Go.Shelf Go.Sort in
theorem record_Step.search (g0 g1 : Nat) (A : Option Addr) (c : Nat) (l : List (S45)) (a1 : Int) (W : World) (hC : Kd.C k45 W A l.length l) (hsz : l.length < 4611686018427387904) (hasc : record_Step.Asc l)
    (h0 : W.cell? ⟨g0, 0, none⟩ = some (.slice A l.length c)) (h1 : W.cell? ⟨g1, 0, none⟩ = some (.int .i64 a1)) :
    Calls Try.prog 45 #[.int .i64 (l.length : Nat), .func (.func 47) #[] #[.pointer (some ⟨g0, 0, none⟩), .pointer (some ⟨g1, 0, none⟩)]] W
      fun e w' => e = .returned (.int .i64 ((l.countP (fun y => !decide (y.f0 ≥ a1)) : Nat) : Int)) ∧ Below W.heap.size W w' := by
  have eg : ∀ args w, (callFunc 47 args).run Try.prog w = .ok (.enter 47 args) w := enters_of Try.func47 (by kernel_rfl) rfl
  have b0 := World.block_lt_of_cell? W _ h0
  have b1 := World.block_lt_of_cell? W _ h1
  have hS := Any.sort_Search Try.laysSearch 47 #[.pointer (some ⟨g0, 0, none⟩), .pointer (some ⟨g1, 0, none⟩)] l.length (fun i => decide ((l.getD i z45).f0 ≥ a1)) W eg hsz
    (fun m os i hi => by
      obtain ⟨ad, rfl, hx, _⟩ := at_T45 hC (i : Int) (by omega) (by omega)
      have hx' : W.cell? (ad.add (i * 2)) = some (.int .i64 (l.getD i z45).f0) := by simpa [rd_T45] using hx
      have hlt := World.block_lt_of_cell? W _ hx'
      refine (record_Step.clo g0 g1 l.length c ad a1 _ i _ hi (cell_grown b0 h0 m os) (cell_grown b1 h1 m os) (cell_grown hlt hx' m os)).mono ?_
      rintro _ _ ⟨he, q, hq⟩
      exact ⟨he, q, #[], by rw [hq, grow_empty]⟩)
    (fun a b hab hb hp => by have := record_Step.asc_at hasc a b hab hb; simp only [decide_eq_true_eq] at hp ⊢; omega)
  rw [record_Step.count l (fun y => !decide (y.f0 ≥ a1))] at hS
  exact hS.mono fun e w' ⟨he, q, os, hw⟩ => ⟨he, by rw [hw]; exact below_grown_sl W.heap.size W q os (Nat.le_refl _)⟩
theorem record_Step.mid (w W1 w2 : World) (A0 A : Option Addr) (c0 c n0 : Nat) (a1 : Int) (l : List (S45)) (HW : W1 = (w.alloc (.cells #[.slice A0 n0 c0] 22)).alloc (.cells #[.int .i64 a1] 3))
    (HB2 : Below W1.heap.size W1 w2) (HF : Kd.F k45 w2 (fun k_ => k_ < w.heap.size ∨ W1.heap.size ≤ k_) A l.length l) :
    ∃ W3, W3 = w2.setCell ⟨w.heap.size, 0, none⟩ (.slice A l.length c) ∧ Kd.F k45 W3 (fun k_ => k_ < w.heap.size ∨ W1.heap.size ≤ k_) A l.length l ∧
      W3.heap[w.heap.size]? = some (.cells #[.slice A l.length c] 22 (0, 0)) ∧ W3.heap[w.heap.size + 1]? = some (.cells #[.int .i64 a1] 3 (0, 0)) ∧ Below w.heap.size w W3 := by
  have hsize : W1.heap.size = w.heap.size + 1 + 1 := by rw [HW]; simp
  have b0 : W1.heap[w.heap.size]? = some (.cells #[.slice A0 n0 c0] 22 (0, 0)) := by rw [HW]; exact blk_alloc (blk_new _ _) _
  have b1 : W1.heap[w.heap.size + 1]? = some (.cells #[.int .i64 a1] 3 (0, 0)) := by
    rw [HW]
    have := blk_new (w.alloc (.cells #[.slice A0 n0 c0] 22)) (.cells #[.int .i64 a1] 3)
    rwa [World.size_alloc] at this
  have hB1 : Below w.heap.size w W1 := by rw [HW]; exact ((Below.refl _ w).alloc (Nat.le_refl _) _).alloc (by simp) _
  refine ⟨_, rfl, Kd.F_far (p := ⟨w.heap.size, 0, none⟩) HF (fun k hk => by show k ≠ w.heap.size; omega) _, blk_put (blk_below b0 HB2) 0 _ rfl, blk_far (p := ⟨w.heap.size, 0, none⟩) (blk_below b1 HB2) (by show w.heap.size + 1 ≠ w.heap.size; omega) _, ?_⟩
  exact below_set (below_step hB1 HB2) (Nat.le_refl _)
set_option maxHeartbeats 4000000 in
set_option maxRecDepth 100000 in
theorem record_Step.calls (k : Nat) (A0 : Option Addr) (c0 : Nat) (l0 : List (S45)) (a1 : Int) (r : Int) (w : World) (hr0 : Kd.C k45 w A0 l0.length l0) (hc0 : l0.length ≤ c0) (h : record_Step.f k l0 a1 = some r) :
    Calls Try.prog 30 #[.slice A0 l0.length c0, .int .i64 a1] w fun e w' => e = .returned (.int .i64 r) ∧ Below w.heap.size w w' := by
  unfold record_Step.f at h
  obtain ⟨l, hl, h⟩ := Option.bind_eq_some_iff.mp h
  by_cases hs : l.length < 4611686018427387904 ∧ record_Step.Asc l
  · rw [if_pos hs] at h
    obtain ⟨hsz, hasc⟩ := hs
    obtain ⟨W1, hW1⟩ : ∃ W1, W1 = (w.alloc (.cells #[.slice A0 l0.length c0] 22)).alloc (.cells #[.int .i64 a1] 3) := ⟨_, rfl⟩
    have hsize : W1.heap.size = w.heap.size + 1 + 1 := by rw [hW1]; simp
    have hB1 : Below w.heap.size w W1 := by rw [hW1]; exact ((Below.refl _ w).alloc (Nat.le_refl _) _).alloc (by simp) _
    have b0 : W1.heap[w.heap.size]? = some (.cells #[.slice A0 l0.length c0] 22 (0, 0)) := by rw [hW1]; exact blk_alloc (blk_new _ _) _
    have b1 : W1.heap[w.heap.size + 1]? = some (.cells #[.int .i64 a1] 3 (0, 0)) := by
      rw [hW1]
      have := blk_new (w.alloc (.cells #[.slice A0 l0.length c0] 22)) (.cells #[.int .i64 a1] 3)
      rwa [World.size_alloc] at this
    have hV : Kd.V k45 45 W1 W1.heap.size (fun k_ => k_ < w.heap.size) (.slice A0 l0.length c0) l0 := Kd.V_mk hc0 (Kd.F_below (Kd.C_F k45_heap hr0) hB1)
    have HL := Aside0.mk (record_leaps.calls k (fun k_ => k_ < w.heap.size) A0 c0 l0 l W1 hV hl)
    have HW := Aside0.mk hW1
    have HZ := Aside0.mk hsize
    have HB1 := Aside0.mk hB1
    have B0 := Aside0.mk b0
    have B1 := Aside0.mk b1
    have HS := Aside0.mk hsz
    have HA := Aside0.mk hasc
    clear hV hW1 hsize hB1 b0 b1 hsz hasc hr0 hc0 hl
    generalize hcnt : l.countP (fun y => !decide (y.f0 ≥ a1)) = cnt at h
    have HCNT := Aside0.mk hcnt
    clear hcnt
    have hu2 := Try.underlying45
    by_cases hlt : cnt < l.length
    rotate_left
    · rw [show record_Step.val l a1 cnt = 0 by unfold record_Step.val; rw [if_neg hlt]] at h
      obtain rfl := Option.some.inj h
      clear h
      have hcz : ((cnt : Int) == (l.length : Int)) = true := beq_iff_eq.mpr (by have := List.countP_le_length (p := fun y => !decide (y.f0 ≥ a1)) (l := l); have := HCNT.out; omega)
      clear hlt
      go_enter Try.func30, Try.ntmps30
      go_wp2_with (first | (go_at_call 44; rw [← HW.out]; refine HL.out.mono ?_; rintro e w2 ⟨v, rfl, hv, hb⟩; obtain ⟨A, c, rfl, hlc, hF⟩ := hv; have HF := Aside0.mk hF; have HB2 := Aside0.mk hb; have HLC := Aside0.mk hlc; have hcz0 : w2.cell? ⟨w.heap.size, 0, none⟩ = some (.slice A0 l0.length c0) := (blk_cell (blk_below B0.out HB2.out) 0).trans rfl; have hfz0 := blk_frozen (blk_below B0.out HB2.out) 0; have hcz1 : w2.cell? ⟨w.heap.size + 1, 0, none⟩ = some (.int .i64 a1) := (blk_cell (blk_below B1.out HB2.out) 0).trans rfl; clear hF hb hlc) | (go_at_call 45; obtain ⟨W3, hW3, hF3, hb30, hb31, hB3⟩ := record_Step.mid w W1 w2 A0 A c0 c l0.length a1 l HW.out HB2.out HF.out; rw [← hW3]; refine (record_Step.search w.heap.size (w.heap.size + 1) A c l a1 W3 (Kd.F_now hF3) HS.out HA.out ((blk_cell hb30 0).trans rfl) ((blk_cell hb31 0).trans rfl)).mono ?_; rintro e w4 ⟨rfl, hb4⟩; rw [HCNT.out]; have hB4 := Aside0.mk (below_step hB3 hb4); have hF4 := Kd.F_below hF3 hb4; have hcz4 : w4.cell? ⟨w.heap.size, 0, none⟩ = some (.slice A l.length c) := (blk_cell (blk_below hb30 hb4) 0).trans rfl; have hcz5 : w4.cell? ⟨w.heap.size + 1, 0, none⟩ = some (.int .i64 a1) := (blk_cell (blk_below hb31 hb4) 0).trans rfl; clear hW3 hF3 hb30 hb31 hB3 hb4 hF4))
      go_region
      all_goals go_wp2
      go_ret
      exact ⟨by first | rfl | simp [*], by repeat (first | exact hB4.out | apply below_drew1 | apply pw_below_drewN)⟩
    have HM : Aside0 (cnt < l.length) := ⟨hlt⟩
    by_cases hat : (rd_T45 l (cnt : Int)).f0 = a1
    rotate_left
    · rw [show record_Step.val l a1 cnt = 0 by unfold record_Step.val; rw [if_pos hlt, if_neg hat]] at h
      obtain rfl := Option.some.inj h
      clear h
      have hcz : ((cnt : Int) == (l.length : Int)) = false := beq_eq_false_iff_ne.mpr (by omega)
      have hmz : (cnt : Int) < (l.length : Int) := (by omega)
      have hmz0 : 0 ≤ (cnt : Int) := (by omega)
      have hne : ((rd_T45 l (cnt : Int)).f0 != a1) = true := bne_iff_ne.mpr hat
      clear hlt
      go_enter Try.func30, Try.ntmps30
      go_wp2_with (first | (go_at_call 44; rw [← HW.out]; refine HL.out.mono ?_; rintro e w2 ⟨v, rfl, hv, hb⟩; obtain ⟨A, c, rfl, hlc, hF⟩ := hv; have HF := Aside0.mk hF; have HB2 := Aside0.mk hb; have HLC := Aside0.mk hlc; have hcz0 : w2.cell? ⟨w.heap.size, 0, none⟩ = some (.slice A0 l0.length c0) := (blk_cell (blk_below B0.out HB2.out) 0).trans rfl; have hfz0 := blk_frozen (blk_below B0.out HB2.out) 0; have hcz1 : w2.cell? ⟨w.heap.size + 1, 0, none⟩ = some (.int .i64 a1) := (blk_cell (blk_below B1.out HB2.out) 0).trans rfl; clear hF hb hlc) | (go_at_call 45; obtain ⟨W3, hW3, hF3, hb30, hb31, hB3⟩ := record_Step.mid w W1 w2 A0 A c0 c l0.length a1 l HW.out HB2.out HF.out; rw [← hW3]; refine (record_Step.search w.heap.size (w.heap.size + 1) A c l a1 W3 (Kd.F_now hF3) HS.out HA.out ((blk_cell hb30 0).trans rfl) ((blk_cell hb31 0).trans rfl)).mono ?_; rintro e w4 ⟨rfl, hb4⟩; rw [HCNT.out]; have hB4 := Aside0.mk (below_step hB3 hb4); have hF4 := Kd.F_below hF3 hb4; have hcz4 : w4.cell? ⟨w.heap.size, 0, none⟩ = some (.slice A l.length c) := (blk_cell (blk_below hb30 hb4) 0).trans rfl; have hcz5 : w4.cell? ⟨w.heap.size + 1, 0, none⟩ = some (.int .i64 a1) := (blk_cell (blk_below hb31 hb4) 0).trans rfl; obtain ⟨ada, ea, hxa0, hxa1⟩ := at_T45 (Kd.F_now hF4) ((cnt : Int)) (by omega) (by have := HM.out; omega); cases ea; simp only [Int.toNat_natCast] at hxa0 hxa1; clear hW3 hF3 hb30 hb31 hB3 hb4 hF4))
      go_region
      all_goals go_wp2
      go_ret
      exact ⟨by first | rfl | simp [*], by repeat (first | exact hB4.out | apply below_drew1 | apply pw_below_drewN)⟩
    by_cases hz : cnt = 0
    · subst hz
      rw [show record_Step.val l a1 0 = (rd_T45 l 0).f1 by unfold record_Step.val; rw [if_pos hlt, if_pos (by simpa using hat), if_pos rfl]] at h
      obtain rfl := Option.some.inj h
      clear h
      have hcz : ((0 : Int) == (l.length : Int)) = false := beq_eq_false_iff_ne.mpr (by omega)
      have hmz : (0 : Int) < (l.length : Int) := (by omega)
      have hat0 : (rd_T45 l 0).f0 = a1 := by simpa using hat
      have hne : ((rd_T45 l 0).f0 != a1) = false := bne_eq_false_iff_eq.mpr hat0
      clear hlt hat
      go_enter Try.func30, Try.ntmps30
      go_wp2_with (first | (go_at_call 44; rw [← HW.out]; refine HL.out.mono ?_; rintro e w2 ⟨v, rfl, hv, hb⟩; obtain ⟨A, c, rfl, hlc, hF⟩ := hv; have HF := Aside0.mk hF; have HB2 := Aside0.mk hb; have HLC := Aside0.mk hlc; have hcz0 : w2.cell? ⟨w.heap.size, 0, none⟩ = some (.slice A0 l0.length c0) := (blk_cell (blk_below B0.out HB2.out) 0).trans rfl; have hfz0 := blk_frozen (blk_below B0.out HB2.out) 0; have hcz1 : w2.cell? ⟨w.heap.size + 1, 0, none⟩ = some (.int .i64 a1) := (blk_cell (blk_below B1.out HB2.out) 0).trans rfl; clear hF hb hlc) | (go_at_call 45; obtain ⟨W3, hW3, hF3, hb30, hb31, hB3⟩ := record_Step.mid w W1 w2 A0 A c0 c l0.length a1 l HW.out HB2.out HF.out; rw [← hW3]; refine (record_Step.search w.heap.size (w.heap.size + 1) A c l a1 W3 (Kd.F_now hF3) HS.out HA.out ((blk_cell hb30 0).trans rfl) ((blk_cell hb31 0).trans rfl)).mono ?_; rintro e w4 ⟨rfl, hb4⟩; rw [HCNT.out]; have hB4 := Aside0.mk (below_step hB3 hb4); have hF4 := Kd.F_below hF3 hb4; have hcz4 : w4.cell? ⟨w.heap.size, 0, none⟩ = some (.slice A l.length c) := (blk_cell (blk_below hb30 hb4) 0).trans rfl; have hcz5 : w4.cell? ⟨w.heap.size + 1, 0, none⟩ = some (.int .i64 a1) := (blk_cell (blk_below hb31 hb4) 0).trans rfl; obtain ⟨ada, ea, hxa0, hxa1⟩ := at_T45 (Kd.F_now hF4) ((0 : Int)) (by omega) (by have := HM.out; omega); cases ea; simp only [Int.toNat_zero, Nat.zero_mul] at hxa0 hxa1; rw [show ada.add 0 = ada from rfl] at hxa0 hxa1; clear hW3 hF3 hb30 hb31 hB3 hb4 hF4))
      go_region
      all_goals go_wp2
      go_ret
      exact ⟨by first | rfl | simp [*], by repeat (first | exact hB4.out | apply below_drew1 | apply pw_below_drewN)⟩
    · obtain ⟨m, rfl⟩ : ∃ m, cnt = m + 1 := ⟨cnt - 1, by omega⟩
      have ec : ((m + 1 : Nat) : Int) = (m : Int) + 1 := by omega
      rw [ec] at hat
      rw [show record_Step.val l a1 (m + 1) = wrap64 ((rd_T45 l ((m : Int) + 1)).f1 - (rd_T45 l (m : Int)).f1) by unfold record_Step.val; rw [ec, if_pos hlt, if_pos hat, if_neg (by omega), show (m : Int) + 1 - 1 = (m : Int) by omega]] at h
      obtain rfl := Option.some.inj h
      clear h ec
      have hcz : ((m : Int) + 1 == (l.length : Int)) = false := beq_eq_false_iff_ne.mpr (by omega)
      have hc0 : ((m : Int) + 1 == 0) = false := beq_eq_false_iff_ne.mpr (by omega)
      have hmz : (m : Int) + 1 < (l.length : Int) := (by omega)
      have hmz0 : 0 ≤ (m : Int) + 1 := (by omega)
      have hmy : (m : Int) < (l.length : Int) := (by omega)
      have hmy0 : 0 ≤ (m : Int) := (by omega)
      have hne : ((rd_T45 l ((m : Int) + 1)).f0 != a1) = false := bne_eq_false_iff_eq.mpr hat
      have hwz : wrap64 (m : Int) = (m : Int) := by have := HM.out; have := HS.out; unfold wrap64; omega
      clear hlt hz
      go_enter Try.func30, Try.ntmps30
      go_wp2_with (first | (go_at_call 44; rw [← HW.out]; refine HL.out.mono ?_; rintro e w2 ⟨v, rfl, hv, hb⟩; obtain ⟨A, c, rfl, hlc, hF⟩ := hv; have HF := Aside0.mk hF; have HB2 := Aside0.mk hb; have HLC := Aside0.mk hlc; have hcz0 : w2.cell? ⟨w.heap.size, 0, none⟩ = some (.slice A0 l0.length c0) := (blk_cell (blk_below B0.out HB2.out) 0).trans rfl; have hfz0 := blk_frozen (blk_below B0.out HB2.out) 0; have hcz1 : w2.cell? ⟨w.heap.size + 1, 0, none⟩ = some (.int .i64 a1) := (blk_cell (blk_below B1.out HB2.out) 0).trans rfl; clear hF hb hlc) | (go_at_call 45; obtain ⟨W3, hW3, hF3, hb30, hb31, hB3⟩ := record_Step.mid w W1 w2 A0 A c0 c l0.length a1 l HW.out HB2.out HF.out; rw [← hW3]; refine (record_Step.search w.heap.size (w.heap.size + 1) A c l a1 W3 (Kd.F_now hF3) HS.out HA.out ((blk_cell hb30 0).trans rfl) ((blk_cell hb31 0).trans rfl)).mono ?_; rintro e w4 ⟨rfl, hb4⟩; rw [HCNT.out]; have hB4 := Aside0.mk (below_step hB3 hb4); have hF4 := Kd.F_below hF3 hb4; have hcz4 : w4.cell? ⟨w.heap.size, 0, none⟩ = some (.slice A l.length c) := (blk_cell (blk_below hb30 hb4) 0).trans rfl; have hcz5 : w4.cell? ⟨w.heap.size + 1, 0, none⟩ = some (.int .i64 a1) := (blk_cell (blk_below hb31 hb4) 0).trans rfl; obtain ⟨ada, ea, hxa0, hxa1⟩ := at_T45 (Kd.F_now hF4) ((m : Int) + 1) (by omega) (by have := HM.out; omega); cases ea; rw [show ((m : Int) + 1).toNat = m + 1 by omega] at hxa0 hxa1; obtain ⟨adb, eb, hxb0, hxb1⟩ := at_T45 (Kd.F_now hF4) ((m : Int)) (by omega) (by have := HM.out; omega); cases eb; simp only [Int.toNat_natCast] at hxb0 hxb1; clear hW3 hF3 hb30 hb31 hB3 hb4 hF4))
      go_region
      all_goals go_wp2
      all_goals go_region
      all_goals go_wp2
      go_ret
      exact ⟨by first | rfl | simp [*], by repeat (first | exact hB4.out | apply below_drew1 | apply pw_below_drewN)⟩
  · rw [if_neg hs] at h; exact absurd h (by simp)

/-! ### scale_Utc: function 10 -/
def scale_Utc.j0 : Nat → List (S45) → Int → Bool → Bool → Option (Int × Int × Int)
  | 0, _, _, _, _ => none
  | k + 1, x0, x7, x8, x23 => if x23 = true then (some (0, 0, 10)) else (if x8 = true then ((record_Sum.f k x0 x7).bind fun t173 => ((num_Sub.f x7 t173).bind fun bt174 => ((num_Div.f bt174.1 86400).bind fun bt176 => ((record_Step.f k x0 x7).bind fun t179 => (if t179 > 0 then (if bt174.2 = true then (if bt176.1 > 2932896 then (some (0, 0, 9)) else (some (bt176.1, wrap64 (bt176.2.1 + 1), 0))) else (some (0, 0, 9))) else (if bt174.2 = true then (if bt176.1 > 2932896 then (some (0, 0, 9)) else (some (bt176.1, bt176.2.1, 0))) else (some (0, 0, 9)))))))) else (some (0, 0, 9)))
def scale_Utc.f (k : Nat) (l0 : List (S45)) (a1 : Int) : Option (Int × Int × Int) := (num_Add.f a1 63072000).bind fun bt168 => ((scale_Known.f k l0).bind fun t170 => (if t170 = true then (if a1 < 0 then (some (0, 0, 9)) else (if bt168.2 = true then ((scale_expired.f k l0 bt168.1).bind fun t171 => (if t171 = true then (scale_Utc.j0 k l0 bt168.1 bt168.2 true) else (scale_Utc.j0 k l0 bt168.1 bt168.2 false))) else ((scale_expired.f k l0 9223372036854775807).bind fun t172 => (scale_Utc.j0 k l0 bt168.1 bt168.2 t172)))) else (some (0, 0, 1))))
theorem scale_Utc.mono_l : ∀ k, (∀ y0 y1 y2 y3, LeO (scale_Utc.j0 k y0 y1 y2 y3) (scale_Utc.j0 (k + 1) y0 y1 y2 y3))
  | 0 => fun _ _ _ _ r h => by simp [scale_Utc.j0] at h
  | k + 1 => by
    have ih0 := scale_Utc.mono_l k
    · intro y0 y1 y2 y3
      unfold scale_Utc.j0
      repeat' first
      | (with_reducible exact ih0 _ _ _ _)
      | (with_reducible exact record_Step.mono _ _ _)
      | (with_reducible exact record_Sum.mono _ _ _)
      | (with_reducible exact scale_Known.mono _ _)
      | (with_reducible exact scale_expired.mono _ _ _)
      | (with_reducible exact LeO.refl _)
      | (with_reducible exact LeO.none _)
      | (with_reducible refine LeO.ite ?_ ?_)
      | (with_reducible refine LeO.bind ?_ (fun _ => ?_))
      | exact ih0 _ _ _ _
      | exact record_Step.mono _ _ _
      | exact record_Sum.mono _ _ _
      | exact scale_Known.mono _ _
      | exact scale_expired.mono _ _ _
      | exact LeO.none _
      | refine LeO.ite ?_ ?_
      | refine LeO.bind ?_ (fun _ => ?_)
theorem scale_Utc.mono : ∀ a0 a1 k, LeO (scale_Utc.f k a0 a1) (scale_Utc.f (k + 1) a0 a1) := by
  intro a0 a1 k
  have ih0 := scale_Utc.mono_l k
  unfold scale_Utc.f
  repeat' first
      | (with_reducible exact ih0 _ _ _ _)
      | (with_reducible exact record_Step.mono _ _ _)
      | (with_reducible exact record_Sum.mono _ _ _)
      | (with_reducible exact scale_Known.mono _ _)
      | (with_reducible exact scale_expired.mono _ _ _)
      | (with_reducible exact LeO.refl _)
      | (with_reducible exact LeO.none _)
      | (with_reducible refine LeO.ite ?_ ?_)
      | (with_reducible refine LeO.bind ?_ (fun _ => ?_))
      | exact ih0 _ _ _ _
      | exact record_Step.mono _ _ _
      | exact record_Sum.mono _ _ _
      | exact scale_Known.mono _ _
      | exact scale_expired.mono _ _ _
      | exact LeO.none _
      | refine LeO.ite ?_ ?_
      | refine LeO.bind ?_ (fun _ => ?_)
set_option maxHeartbeats 8000000 in
set_option maxRecDepth 100000 in
theorem scale_Utc.calls (k : Nat) (A0 : Option Addr) (c0 : Nat) (l0 : List (S45)) (a1 : Int) (r1 : Int) (r2 : Int) (r3 : Int) (w : World) (hr0 : Kd.C k45 w A0 l0.length l0) (hc0 : l0.length ≤ c0) (h : scale_Utc.f k l0 a1 = some (r1, r2, r3)) :
    Calls Try.prog 10 #[.slice A0 l0.length c0, .int .i64 a1] w fun e w' => e = .returned (.tuple #[.int .i64 r1, .int .i64 r2, .int .i64 r3]) ∧ Below w.heap.size w w' := by
  have HR0 := Aside0.mk hr0
  have HC0 := Aside0.mk hc0
  clear hr0 hc0
  have HB := Aside0.mk (Below.refl w.heap.size w)
  have H : ((num_Add.f a1 63072000).bind fun bt168 => ((scale_Known.f k l0).bind fun t170 => (if t170 = true then (if a1 < 0 then (some (0, 0, 9)) else (if bt168.2 = true then ((scale_expired.f k l0 bt168.1).bind fun t171 => (if t171 = true then (scale_Utc.j0 k l0 bt168.1 bt168.2 true) else (scale_Utc.j0 k l0 bt168.1 bt168.2 false))) else ((scale_expired.f k l0 9223372036854775807).bind fun t172 => (scale_Utc.j0 k l0 bt168.1 bt168.2 t172)))) else (some (0, 0, 1))))) = some (r1, r2, r3) := h
  clear h
  replace H := Option.bind_eq_some_iff.mp H
  obtain ⟨⟨t168, t169⟩, A30, H⟩ := H
  replace H : ((scale_Known.f k l0).bind fun t170 => (if t170 = true then (if a1 < 0 then (some (0, 0, 9)) else (if t169 = true then ((scale_expired.f k l0 t168).bind fun t171 => (if t171 = true then (scale_Utc.j0 k l0 t168 t169 true) else (scale_Utc.j0 k l0 t168 t169 false))) else ((scale_expired.f k l0 9223372036854775807).bind fun t172 => (scale_Utc.j0 k l0 t168 t169 t172)))) else (some (0, 0, 1)))) = some (r1, r2, r3) := H
  have A3 := Aside0.mk A30
  clear A30
  replace H := Option.bind_eq_some_iff.mp H
  obtain ⟨t170, A40, H⟩ := H
  replace H : (if t170 = true then (if a1 < 0 then (some (0, 0, 9)) else (if t169 = true then ((scale_expired.f k l0 t168).bind fun t171 => (if t171 = true then (scale_Utc.j0 k l0 t168 t169 true) else (scale_Utc.j0 k l0 t168 t169 false))) else ((scale_expired.f k l0 9223372036854775807).bind fun t172 => (scale_Utc.j0 k l0 t168 t169 t172)))) else (some (0, 0, 1))) = some (r1, r2, r3) := H
  have A4 := Aside0.mk A40
  clear A40
  by_cases c5 : t170 = true
  · subst c5
    have H1 : (if a1 < 0 then (some (0, 0, 9)) else (if t169 = true then ((scale_expired.f k l0 t168).bind fun t171 => (if t171 = true then (scale_Utc.j0 k l0 t168 t169 true) else (scale_Utc.j0 k l0 t168 t169 false))) else ((scale_expired.f k l0 9223372036854775807).bind fun t172 => (scale_Utc.j0 k l0 t168 t169 t172)))) = some (r1, r2, r3) := by rw [if_pos rfl] at H; exact H
    clear H
    have H := H1
    clear H1
    by_cases c6 : a1 < 0
    · rw [if_pos c6] at H
      have c6b0 : decide (a1 < 0) = true := decide_eq_true c6
      clear c6
      simp only [Option.some.injEq, Prod.mk.injEq] at H
      obtain ⟨rfl, rfl, rfl⟩ := H
      go_enter Try.func10, Try.ntmps10
      go_wp2_with (first | ((with_reducible refine gate_callee (f := 25) rfl ?_); refine goesL_ (some 13) rfl rfl Try.func25 (by kernel_rfl) rfl #[.int .i64 a1, .int .i64 63072000] rfl (by (try simp only [List.map_toArray, List.map_cons, List.map_nil]); first | done | rfl | (simp only [List.length_drop, List.length_take]; rfl)) ?_; (with_reducible refine (num_Add.calls a1 63072000 t168 t169 _ A3.out).mono ?_); rintro e w' ⟨rfl, ⟨nd, rfl⟩⟩; refine ⟨_, rfl, ?_⟩) | ((with_reducible refine gate_callee (f := 18) rfl ?_); refine goesL_ (some 18) rfl rfl Try.func18 (by kernel_rfl) rfl #[.slice A0 l0.length c0] rfl (by (try simp only [List.map_toArray, List.map_cons, List.map_nil]); first | done | rfl | (simp only [List.length_drop, List.length_take]; rfl)) ?_; (with_reducible refine (scale_Known.calls k _ _ l0 true _ ?side1 ?side2 A4.out).mono ?_); (case side1 => repeat (first | exact HR0.out | (with_reducible refine Kd.C_alloc ?_ _) | (with_reducible refine Kd.C_drewN ?_ _) | (with_reducible refine Kd.C_drew ?_))); (case side2 => exact HC0.out); rintro e w7 ⟨rfl, hb⟩; refine ⟨_, rfl, ?_⟩; have n0_ := Aside0.mk (below_step (by repeat (first | (with_reducible first | exact HB.out | apply below_alloc | apply pw_below_drewN | apply below_drew1) | exact HB.out)) hb); clear HB; have HB := n0_; clear n0_; (try clear hb); (try clear hb2); (try clear hk); (try clear hi)))
      go_ret3
      exact ⟨by first | rfl | (simp [errW_none, errW_some] <;> rfl) | (simp [*, errW_none, errW_some] <;> rfl), by repeat (first | (with_reducible first | exact HB.out | apply below_alloc | apply pw_below_drewN | apply below_drew1) | exact HB.out)⟩
    · rw [if_neg c6] at H
      have c6b0 : decide (a1 < 0) = false := decide_eq_false c6
      clear c6
      have HC8 := Aside0.mk H
      clear H
      go_enter Try.func10, Try.ntmps10
      go_upto_region 6 with (first | ((with_reducible refine gate_callee (f := 25) rfl ?_); refine goesL_ (some 13) rfl rfl Try.func25 (by kernel_rfl) rfl #[.int .i64 a1, .int .i64 63072000] rfl (by (try simp only [List.map_toArray, List.map_cons, List.map_nil]); first | done | rfl | (simp only [List.length_drop, List.length_take]; rfl)) ?_; (with_reducible refine (num_Add.calls a1 63072000 t168 t169 _ A3.out).mono ?_); rintro e w' ⟨rfl, ⟨nd, rfl⟩⟩; refine ⟨_, rfl, ?_⟩) | ((with_reducible refine gate_callee (f := 18) rfl ?_); refine goesL_ (some 18) rfl rfl Try.func18 (by kernel_rfl) rfl #[.slice A0 l0.length c0] rfl (by (try simp only [List.map_toArray, List.map_cons, List.map_nil]); first | done | rfl | (simp only [List.length_drop, List.length_take]; rfl)) ?_; (with_reducible refine (scale_Known.calls k _ _ l0 true _ ?side1 ?side2 A4.out).mono ?_); (case side1 => repeat (first | exact HR0.out | (with_reducible refine Kd.C_alloc ?_ _) | (with_reducible refine Kd.C_drewN ?_ _) | (with_reducible refine Kd.C_drew ?_))); (case side2 => exact HC0.out); rintro e w9 ⟨rfl, hb⟩; refine ⟨_, rfl, ?_⟩; have n0_ := Aside0.mk (below_step (by repeat (first | (with_reducible first | exact HB.out | apply below_alloc | apply pw_below_drewN | apply below_drew1) | exact HB.out)) hb); clear HB; have HB := n0_; clear n0_; (try clear hb); (try clear hb2); (try clear hk); (try clear hi)))
      (try simp only [Act.put, List.setIfInBounds_toArray, List.set_cons_zero, List.set_cons_succ])
      go_cut [23] (fun v23 wc => ∃ (kq : Nat) (x23_7 : Bool), v23 = .bool x23_7 ∧ Aside0 (scale_Utc.j0 kq l0 t168 t169 x23_7 = some (r1, r2, r3)) ∧ Aside0 (kq ≤ k) ∧ Aside0 (Below w.heap.size w wc))
      case first =>
        have H := HC8.out
        clear HC8
        by_cases c10 : t169 = true
        · subst c10
          have H1 : ((scale_expired.f k l0 t168).bind fun t171 => (if t171 = true then (scale_Utc.j0 k l0 t168 true true) else (scale_Utc.j0 k l0 t168 true false))) = some (r1, r2, r3) := by rw [if_pos rfl] at H; exact H
          clear H
          have H := H1
          clear H1
          replace H := Option.bind_eq_some_iff.mp H
          obtain ⟨t171, A110, H⟩ := H
          replace H : (if t171 = true then (scale_Utc.j0 k l0 t168 true true) else (scale_Utc.j0 k l0 t168 true false)) = some (r1, r2, r3) := H
          have A11 := Aside0.mk A110
          clear A110
          by_cases c12 : t171 = true
          · subst c12
            have H1 : (scale_Utc.j0 k l0 t168 true true) = some (r1, r2, r3) := by rw [if_pos rfl] at H; exact H
            clear H
            have H := H1
            clear H1
            have H' := Aside0.mk H
            clear H
            go_wp2_with (first | (go_at_call 26; (with_reducible refine (scale_expired.calls k _ _ l0 t168 true _ ?side1 ?side2 A11.out).mono ?_); (case side1 => repeat (first | exact (Kd.C_below HR0.out HB.out) | (with_reducible refine Kd.C_alloc ?_ _) | (with_reducible refine Kd.C_drewN ?_ _) | (with_reducible refine Kd.C_drew ?_))); (case side2 => exact HC0.out); rintro e w13 ⟨rfl, hb⟩; have n0_ := Aside0.mk (below_step (by repeat (first | (with_reducible first | exact HB.out | apply below_alloc | apply pw_below_drewN | apply below_drew1) | exact HB.out)) hb); clear HB; have HB := n0_; clear n0_; (try clear hb); (try clear hb2); (try clear hk); (try clear hi)))
            go_meet
            case rel => exact ⟨_, (true), (by first | rfl | (simp; done) | (simp [*]; done)), H', ⟨by first | omega | exact Nat.le_refl _⟩, ⟨by repeat (first | (with_reducible first | exact HB.out | apply below_alloc | apply pw_below_drewN | apply below_drew1) | exact HB.out)⟩⟩
          · replace c12 := Bool.eq_false_iff.mpr c12
            subst c12
            have H1 : (scale_Utc.j0 k l0 t168 true false) = some (r1, r2, r3) := by rw [if_neg (show ¬ (false = true) by decide)] at H; exact H
            clear H
            have H := H1
            clear H1
            have H' := Aside0.mk H
            clear H
            go_wp2_with (first | (go_at_call 26; (with_reducible refine (scale_expired.calls k _ _ l0 t168 false _ ?side1 ?side2 A11.out).mono ?_); (case side1 => repeat (first | exact (Kd.C_below HR0.out HB.out) | (with_reducible refine Kd.C_alloc ?_ _) | (with_reducible refine Kd.C_drewN ?_ _) | (with_reducible refine Kd.C_drew ?_))); (case side2 => exact HC0.out); rintro e w14 ⟨rfl, hb⟩; have n0_ := Aside0.mk (below_step (by repeat (first | (with_reducible first | exact HB.out | apply below_alloc | apply pw_below_drewN | apply below_drew1) | exact HB.out)) hb); clear HB; have HB := n0_; clear n0_; (try clear hb); (try clear hb2); (try clear hk); (try clear hi)))
            go_meet
            case rel => exact ⟨_, (false), (by first | rfl | (simp; done) | (simp [*]; done)), H', ⟨by first | omega | exact Nat.le_refl _⟩, ⟨by repeat (first | (with_reducible first | exact HB.out | apply below_alloc | apply pw_below_drewN | apply below_drew1) | exact HB.out)⟩⟩
        · replace c10 := Bool.eq_false_iff.mpr c10
          subst c10
          have H1 : ((scale_expired.f k l0 9223372036854775807).bind fun t172 => (scale_Utc.j0 k l0 t168 false t172)) = some (r1, r2, r3) := by rw [if_neg (show ¬ (false = true) by decide)] at H; exact H
          clear H
          have H := H1
          clear H1
          replace H := Option.bind_eq_some_iff.mp H
          obtain ⟨t172, A150, H⟩ := H
          replace H : (scale_Utc.j0 k l0 t168 false t172) = some (r1, r2, r3) := H
          have A15 := Aside0.mk A150
          clear A150
          have H' := Aside0.mk H
          clear H
          go_wp2_with (first | (go_at_call 26; (with_reducible refine (scale_expired.calls k _ _ l0 9223372036854775807 t172 _ ?side1 ?side2 A15.out).mono ?_); (case side1 => repeat (first | exact (Kd.C_below HR0.out HB.out) | (with_reducible refine Kd.C_alloc ?_ _) | (with_reducible refine Kd.C_drewN ?_ _) | (with_reducible refine Kd.C_drew ?_))); (case side2 => exact HC0.out); rintro e w16 ⟨rfl, hb⟩; have n0_ := Aside0.mk (below_step (by repeat (first | (with_reducible first | exact HB.out | apply below_alloc | apply pw_below_drewN | apply below_drew1) | exact HB.out)) hb); clear HB; have HB := n0_; clear n0_; (try clear hb); (try clear hb2); (try clear hk); (try clear hi)))
          go_meet
          case rel => exact ⟨_, (t172), (by first | rfl | (simp; done) | (simp [*]; done)), H', ⟨by first | omega | exact Nat.le_refl _⟩, ⟨by repeat (first | (with_reducible first | exact HB.out | apply below_alloc | apply pw_below_drewN | apply below_drew1) | exact HB.out)⟩⟩
      case rest =>
        clear HC8
        try clear c1
        try clear c2
        try clear p2
        try clear c5
        try clear c6
        try clear c6b0
        try clear c10
        try clear c12
        obtain ⟨kq, x23_7, rfl, HA, HJ7, HB⟩ := hcut
        cases kq with
        | zero => exact absurd HA.out (by simp [scale_Utc.j0])
        | succ kj7 =>
          have H := HA.out
          clear HA
          simp only [scale_Utc.j0] at H
          by_cases c17 : x23_7 = true
          · subst c17
            have H1 : (some (0, 0, 10)) = some (r1, r2, r3) := by rw [if_pos rfl] at H; exact H
            clear H
            have H := H1
            clear H1
            simp only [Option.some.injEq, Prod.mk.injEq] at H
            obtain ⟨rfl, rfl, rfl⟩ := H
            go_wp2
            go_ret3
            exact ⟨by first | rfl | (simp [errW_none, errW_some] <;> rfl) | (simp [*, errW_none, errW_some] <;> rfl), by repeat (first | (with_reducible first | exact HB.out | apply below_alloc | apply pw_below_drewN | apply below_drew1) | exact HB.out)⟩
          · replace c17 := Bool.eq_false_iff.mpr c17
            subst c17
            have H1 : (if t169 = true then ((record_Sum.f kj7 l0 t168).bind fun t173 => ((num_Sub.f t168 t173).bind fun bt174 => ((num_Div.f bt174.1 86400).bind fun bt176 => ((record_Step.f kj7 l0 t168).bind fun t179 => (if t179 > 0 then (if bt174.2 = true then (if bt176.1 > 2932896 then (some (0, 0, 9)) else (some (bt176.1, wrap64 (bt176.2.1 + 1), 0))) else (some (0, 0, 9))) else (if bt174.2 = true then (if bt176.1 > 2932896 then (some (0, 0, 9)) else (some (bt176.1, bt176.2.1, 0))) else (some (0, 0, 9)))))))) else (some (0, 0, 9))) = some (r1, r2, r3) := by rw [if_neg (show ¬ (false = true) by decide)] at H; exact H
            clear H
            have H := H1
            clear H1
            by_cases c18 : t169 = true
            · subst c18
              have H1 : ((record_Sum.f kj7 l0 t168).bind fun t173 => ((num_Sub.f t168 t173).bind fun bt174 => ((num_Div.f bt174.1 86400).bind fun bt176 => ((record_Step.f kj7 l0 t168).bind fun t179 => (if t179 > 0 then (if bt174.2 = true then (if bt176.1 > 2932896 then (some (0, 0, 9)) else (some (bt176.1, wrap64 (bt176.2.1 + 1), 0))) else (some (0, 0, 9))) else (if bt174.2 = true then (if bt176.1 > 2932896 then (some (0, 0, 9)) else (some (bt176.1, bt176.2.1, 0))) else (some (0, 0, 9)))))))) = some (r1, r2, r3) := by rw [if_pos rfl] at H; exact H
              clear H
              have H := H1
              clear H1
              replace H := Option.bind_eq_some_iff.mp H
              obtain ⟨t173, A190, H⟩ := H
              replace H : ((num_Sub.f t168 t173).bind fun bt174 => ((num_Div.f bt174.1 86400).bind fun bt176 => ((record_Step.f kj7 l0 t168).bind fun t179 => (if t179 > 0 then (if bt174.2 = true then (if bt176.1 > 2932896 then (some (0, 0, 9)) else (some (bt176.1, wrap64 (bt176.2.1 + 1), 0))) else (some (0, 0, 9))) else (if bt174.2 = true then (if bt176.1 > 2932896 then (some (0, 0, 9)) else (some (bt176.1, bt176.2.1, 0))) else (some (0, 0, 9))))))) = some (r1, r2, r3) := H
              have A19 := Aside0.mk A190
              clear A190
              replace H := Option.bind_eq_some_iff.mp H
              obtain ⟨⟨t174, t175⟩, A200, H⟩ := H
              replace H : ((num_Div.f t174 86400).bind fun bt176 => ((record_Step.f kj7 l0 t168).bind fun t179 => (if t179 > 0 then (if t175 = true then (if bt176.1 > 2932896 then (some (0, 0, 9)) else (some (bt176.1, wrap64 (bt176.2.1 + 1), 0))) else (some (0, 0, 9))) else (if t175 = true then (if bt176.1 > 2932896 then (some (0, 0, 9)) else (some (bt176.1, bt176.2.1, 0))) else (some (0, 0, 9)))))) = some (r1, r2, r3) := H
              have A20 := Aside0.mk A200
              clear A200
              replace H := Option.bind_eq_some_iff.mp H
              obtain ⟨⟨t176, t177, t178⟩, A210, H⟩ := H
              replace H : ((record_Step.f kj7 l0 t168).bind fun t179 => (if t179 > 0 then (if t175 = true then (if t176 > 2932896 then (some (0, 0, 9)) else (some (t176, wrap64 (t177 + 1), 0))) else (some (0, 0, 9))) else (if t175 = true then (if t176 > 2932896 then (some (0, 0, 9)) else (some (t176, t177, 0))) else (some (0, 0, 9))))) = some (r1, r2, r3) := H
              have A21 := Aside0.mk A210
              clear A210
              replace H := Option.bind_eq_some_iff.mp H
              obtain ⟨t179, A220, H⟩ := H
              replace H : (if t179 > 0 then (if t175 = true then (if t176 > 2932896 then (some (0, 0, 9)) else (some (t176, wrap64 (t177 + 1), 0))) else (some (0, 0, 9))) else (if t175 = true then (if t176 > 2932896 then (some (0, 0, 9)) else (some (t176, t177, 0))) else (some (0, 0, 9)))) = some (r1, r2, r3) := H
              have A22 := Aside0.mk A220
              clear A220
              by_cases c23 : t179 > 0
              · rw [if_pos c23] at H
                have c23b0 : decide (0 < t179) = true := decide_eq_true c23
                clear c23
                by_cases c24 : t175 = true
                · subst c24
                  have H1 : (if t176 > 2932896 then (some (0, 0, 9)) else (some (t176, wrap64 (t177 + 1), 0))) = some (r1, r2, r3) := by rw [if_pos rfl] at H; exact H
                  clear H
                  have H := H1
                  clear H1
                  by_cases c25 : t176 > 2932896
                  · rw [if_pos c25] at H
                    have c25b0 : decide (2932896 < t176) = true := decide_eq_true c25
                    clear c25
                    simp only [Option.some.injEq, Prod.mk.injEq] at H
                    obtain ⟨rfl, rfl, rfl⟩ := H
                    go_wp2_with (first | ((with_reducible refine gate_callee (f := 28) rfl ?_); refine goesL_ (some 45) rfl rfl Try.func28 (by kernel_rfl) rfl #[.slice A0 l0.length c0, .int .i64 t168] rfl (by (try simp only [List.map_toArray, List.map_cons, List.map_nil]); first | done | rfl | (simp only [List.length_drop, List.length_take]; rfl)) ?_; (with_reducible refine (record_Sum.calls kj7 _ _ l0 t168 t173 _ ?side1 ?side2 A19.out).mono ?_); (case side1 => repeat (first | exact (Kd.C_below HR0.out HB.out) | (with_reducible refine Kd.C_alloc ?_ _) | (with_reducible refine Kd.C_drewN ?_ _) | (with_reducible refine Kd.C_drew ?_))); (case side2 => exact HC0.out); rintro e w26 ⟨rfl, hb⟩; refine ⟨_, rfl, ?_⟩; have n0_ := Aside0.mk (below_step (by repeat (first | (with_reducible first | exact HB.out | apply below_alloc | apply pw_below_drewN | apply below_drew1) | exact HB.out)) hb); clear HB; have HB := n0_; clear n0_; (try clear hb); (try clear hb2); (try clear hk); (try clear hi)) | ((with_reducible refine gate_callee (f := 27) rfl ?_); refine goesL_ (some 46) rfl rfl Try.func27 (by kernel_rfl) rfl #[.int .i64 t168, .int .i64 t173] rfl (by (try simp only [List.map_toArray, List.map_cons, List.map_nil]); first | done | rfl | (simp only [List.length_drop, List.length_take]; rfl)) ?_; (with_reducible refine (num_Sub.calls t168 t173 t174 true _ A20.out).mono ?_); rintro e w' ⟨rfl, ⟨nd, rfl⟩⟩; refine ⟨_, rfl, ?_⟩) | ((with_reducible refine gate_callee (f := 29) rfl ?_); refine goesL_ (some 51) rfl rfl Try.func29 (by kernel_rfl) rfl #[.int .i64 t174, .int .i64 86400] rfl (by (try simp only [List.map_toArray, List.map_cons, List.map_nil]); first | done | rfl | (simp only [List.length_drop, List.length_take]; rfl)) ?_; (with_reducible refine (num_Div.calls t174 86400 t176 t177 t178 _ A21.out).mono ?_); rintro e w' ⟨rfl, ⟨nd, rfl⟩⟩; refine ⟨_, rfl, ?_⟩) | ((with_reducible refine gate_callee (f := 30) rfl ?_); refine goesL_ (some 57) rfl rfl Try.func30 (by kernel_rfl) rfl #[.slice A0 l0.length c0, .int .i64 t168] rfl (by (try simp only [List.map_toArray, List.map_cons, List.map_nil]); first | done | rfl | (simp only [List.length_drop, List.length_take]; rfl)) ?_; (with_reducible refine (record_Step.calls kj7 _ _ l0 t168 t179 _ ?side1 ?side2 A22.out).mono ?_); (case side1 => repeat (first | exact (Kd.C_below HR0.out (by repeat (first | (with_reducible first | exact HB.out | apply below_alloc | apply pw_below_drewN | apply below_drew1) | exact HB.out))) | (with_reducible refine Kd.C_alloc ?_ _) | (with_reducible refine Kd.C_drewN ?_ _) | (with_reducible refine Kd.C_drew ?_))); (case side2 => exact HC0.out); rintro e w27 ⟨rfl, hb⟩; refine ⟨_, rfl, ?_⟩; have n0_ := Aside0.mk (below_step (by repeat (first | (with_reducible first | exact HB.out | apply below_alloc | apply pw_below_drewN | apply below_drew1) | exact HB.out)) hb); clear HB; have HB := n0_; clear n0_; (try clear hb); (try clear hb2); (try clear hk); (try clear hi)))
                    go_ret3
                    exact ⟨by first | rfl | (simp [errW_none, errW_some] <;> rfl) | (simp [*, errW_none, errW_some] <;> rfl), by repeat (first | (with_reducible first | exact HB.out | apply below_alloc | apply pw_below_drewN | apply below_drew1) | exact HB.out)⟩
                  · rw [if_neg c25] at H
                    have c25b0 : decide (2932896 < t176) = false := decide_eq_false c25
                    clear c25
                    simp only [Option.some.injEq, Prod.mk.injEq] at H
                    obtain ⟨rfl, rfl, rfl⟩ := H
                    go_wp2_with (first | ((with_reducible refine gate_callee (f := 28) rfl ?_); refine goesL_ (some 45) rfl rfl Try.func28 (by kernel_rfl) rfl #[.slice A0 l0.length c0, .int .i64 t168] rfl (by (try simp only [List.map_toArray, List.map_cons, List.map_nil]); first | done | rfl | (simp only [List.length_drop, List.length_take]; rfl)) ?_; (with_reducible refine (record_Sum.calls kj7 _ _ l0 t168 t173 _ ?side1 ?side2 A19.out).mono ?_); (case side1 => repeat (first | exact (Kd.C_below HR0.out HB.out) | (with_reducible refine Kd.C_alloc ?_ _) | (with_reducible refine Kd.C_drewN ?_ _) | (with_reducible refine Kd.C_drew ?_))); (case side2 => exact HC0.out); rintro e w28 ⟨rfl, hb⟩; refine ⟨_, rfl, ?_⟩; have n0_ := Aside0.mk (below_step (by repeat (first | (with_reducible first | exact HB.out | apply below_alloc | apply pw_below_drewN | apply below_drew1) | exact HB.out)) hb); clear HB; have HB := n0_; clear n0_; (try clear hb); (try clear hb2); (try clear hk); (try clear hi)) | ((with_reducible refine gate_callee (f := 27) rfl ?_); refine goesL_ (some 46) rfl rfl Try.func27 (by kernel_rfl) rfl #[.int .i64 t168, .int .i64 t173] rfl (by (try simp only [List.map_toArray, List.map_cons, List.map_nil]); first | done | rfl | (simp only [List.length_drop, List.length_take]; rfl)) ?_; (with_reducible refine (num_Sub.calls t168 t173 t174 true _ A20.out).mono ?_); rintro e w' ⟨rfl, ⟨nd, rfl⟩⟩; refine ⟨_, rfl, ?_⟩) | ((with_reducible refine gate_callee (f := 29) rfl ?_); refine goesL_ (some 51) rfl rfl Try.func29 (by kernel_rfl) rfl #[.int .i64 t174, .int .i64 86400] rfl (by (try simp only [List.map_toArray, List.map_cons, List.map_nil]); first | done | rfl | (simp only [List.length_drop, List.length_take]; rfl)) ?_; (with_reducible refine (num_Div.calls t174 86400 t176 t177 t178 _ A21.out).mono ?_); rintro e w' ⟨rfl, ⟨nd, rfl⟩⟩; refine ⟨_, rfl, ?_⟩) | ((with_reducible refine gate_callee (f := 30) rfl ?_); refine goesL_ (some 57) rfl rfl Try.func30 (by kernel_rfl) rfl #[.slice A0 l0.length c0, .int .i64 t168] rfl (by (try simp only [List.map_toArray, List.map_cons, List.map_nil]); first | done | rfl | (simp only [List.length_drop, List.length_take]; rfl)) ?_; (with_reducible refine (record_Step.calls kj7 _ _ l0 t168 t179 _ ?side1 ?side2 A22.out).mono ?_); (case side1 => repeat (first | exact (Kd.C_below HR0.out (by repeat (first | (with_reducible first | exact HB.out | apply below_alloc | apply pw_below_drewN | apply below_drew1) | exact HB.out))) | (with_reducible refine Kd.C_alloc ?_ _) | (with_reducible refine Kd.C_drewN ?_ _) | (with_reducible refine Kd.C_drew ?_))); (case side2 => exact HC0.out); rintro e w29 ⟨rfl, hb⟩; refine ⟨_, rfl, ?_⟩; have n0_ := Aside0.mk (below_step (by repeat (first | (with_reducible first | exact HB.out | apply below_alloc | apply pw_below_drewN | apply below_drew1) | exact HB.out)) hb); clear HB; have HB := n0_; clear n0_; (try clear hb); (try clear hb2); (try clear hk); (try clear hi)))
                    go_ret3
                    exact ⟨by first | rfl | (simp [errW_none, errW_some] <;> rfl) | (simp [*, errW_none, errW_some] <;> rfl), by repeat (first | (with_reducible first | exact HB.out | apply below_alloc | apply pw_below_drewN | apply below_drew1) | exact HB.out)⟩
                · replace c24 := Bool.eq_false_iff.mpr c24
                  subst c24
                  have H1 : (some (0, 0, 9)) = some (r1, r2, r3) := by rw [if_neg (show ¬ (false = true) by decide)] at H; exact H
                  clear H
                  have H := H1
                  clear H1
                  simp only [Option.some.injEq, Prod.mk.injEq] at H
                  obtain ⟨rfl, rfl, rfl⟩ := H
                  go_wp2_with (first | ((with_reducible refine gate_callee (f := 28) rfl ?_); refine goesL_ (some 45) rfl rfl Try.func28 (by kernel_rfl) rfl #[.slice A0 l0.length c0, .int .i64 t168] rfl (by (try simp only [List.map_toArray, List.map_cons, List.map_nil]); first | done | rfl | (simp only [List.length_drop, List.length_take]; rfl)) ?_; (with_reducible refine (record_Sum.calls kj7 _ _ l0 t168 t173 _ ?side1 ?side2 A19.out).mono ?_); (case side1 => repeat (first | exact (Kd.C_below HR0.out HB.out) | (with_reducible refine Kd.C_alloc ?_ _) | (with_reducible refine Kd.C_drewN ?_ _) | (with_reducible refine Kd.C_drew ?_))); (case side2 => exact HC0.out); rintro e w30 ⟨rfl, hb⟩; refine ⟨_, rfl, ?_⟩; have n0_ := Aside0.mk (below_step (by repeat (first | (with_reducible first | exact HB.out | apply below_alloc | apply pw_below_drewN | apply below_drew1) | exact HB.out)) hb); clear HB; have HB := n0_; clear n0_; (try clear hb); (try clear hb2); (try clear hk); (try clear hi)) | ((with_reducible refine gate_callee (f := 27) rfl ?_); refine goesL_ (some 46) rfl rfl Try.func27 (by kernel_rfl) rfl #[.int .i64 t168, .int .i64 t173] rfl (by (try simp only [List.map_toArray, List.map_cons, List.map_nil]); first | done | rfl | (simp only [List.length_drop, List.length_take]; rfl)) ?_; (with_reducible refine (num_Sub.calls t168 t173 t174 false _ A20.out).mono ?_); rintro e w' ⟨rfl, ⟨nd, rfl⟩⟩; refine ⟨_, rfl, ?_⟩) | ((with_reducible refine gate_callee (f := 29) rfl ?_); refine goesL_ (some 51) rfl rfl Try.func29 (by kernel_rfl) rfl #[.int .i64 t174, .int .i64 86400] rfl (by (try simp only [List.map_toArray, List.map_cons, List.map_nil]); first | done | rfl | (simp only [List.length_drop, List.length_take]; rfl)) ?_; (with_reducible refine (num_Div.calls t174 86400 t176 t177 t178 _ A21.out).mono ?_); rintro e w' ⟨rfl, ⟨nd, rfl⟩⟩; refine ⟨_, rfl, ?_⟩) | ((with_reducible refine gate_callee (f := 30) rfl ?_); refine goesL_ (some 57) rfl rfl Try.func30 (by kernel_rfl) rfl #[.slice A0 l0.length c0, .int .i64 t168] rfl (by (try simp only [List.map_toArray, List.map_cons, List.map_nil]); first | done | rfl | (simp only [List.length_drop, List.length_take]; rfl)) ?_; (with_reducible refine (record_Step.calls kj7 _ _ l0 t168 t179 _ ?side1 ?side2 A22.out).mono ?_); (case side1 => repeat (first | exact (Kd.C_below HR0.out (by repeat (first | (with_reducible first | exact HB.out | apply below_alloc | apply pw_below_drewN | apply below_drew1) | exact HB.out))) | (with_reducible refine Kd.C_alloc ?_ _) | (with_reducible refine Kd.C_drewN ?_ _) | (with_reducible refine Kd.C_drew ?_))); (case side2 => exact HC0.out); rintro e w31 ⟨rfl, hb⟩; refine ⟨_, rfl, ?_⟩; have n0_ := Aside0.mk (below_step (by repeat (first | (with_reducible first | exact HB.out | apply below_alloc | apply pw_below_drewN | apply below_drew1) | exact HB.out)) hb); clear HB; have HB := n0_; clear n0_; (try clear hb); (try clear hb2); (try clear hk); (try clear hi)))
                  go_ret3
                  exact ⟨by first | rfl | (simp [errW_none, errW_some] <;> rfl) | (simp [*, errW_none, errW_some] <;> rfl), by repeat (first | (with_reducible first | exact HB.out | apply below_alloc | apply pw_below_drewN | apply below_drew1) | exact HB.out)⟩
              · rw [if_neg c23] at H
                have c23b0 : decide (0 < t179) = false := decide_eq_false c23
                clear c23
                by_cases c32 : t175 = true
                · subst c32
                  have H1 : (if t176 > 2932896 then (some (0, 0, 9)) else (some (t176, t177, 0))) = some (r1, r2, r3) := by rw [if_pos rfl] at H; exact H
                  clear H
                  have H := H1
                  clear H1
                  by_cases c33 : t176 > 2932896
                  · rw [if_pos c33] at H
                    have c33b0 : decide (2932896 < t176) = true := decide_eq_true c33
                    clear c33
                    simp only [Option.some.injEq, Prod.mk.injEq] at H
                    obtain ⟨rfl, rfl, rfl⟩ := H
                    go_wp2_with (first | ((with_reducible refine gate_callee (f := 28) rfl ?_); refine goesL_ (some 45) rfl rfl Try.func28 (by kernel_rfl) rfl #[.slice A0 l0.length c0, .int .i64 t168] rfl (by (try simp only [List.map_toArray, List.map_cons, List.map_nil]); first | done | rfl | (simp only [List.length_drop, List.length_take]; rfl)) ?_; (with_reducible refine (record_Sum.calls kj7 _ _ l0 t168 t173 _ ?side1 ?side2 A19.out).mono ?_); (case side1 => repeat (first | exact (Kd.C_below HR0.out HB.out) | (with_reducible refine Kd.C_alloc ?_ _) | (with_reducible refine Kd.C_drewN ?_ _) | (with_reducible refine Kd.C_drew ?_))); (case side2 => exact HC0.out); rintro e w34 ⟨rfl, hb⟩; refine ⟨_, rfl, ?_⟩; have n0_ := Aside0.mk (below_step (by repeat (first | (with_reducible first | exact HB.out | apply below_alloc | apply pw_below_drewN | apply below_drew1) | exact HB.out)) hb); clear HB; have HB := n0_; clear n0_; (try clear hb); (try clear hb2); (try clear hk); (try clear hi)) | ((with_reducible refine gate_callee (f := 27) rfl ?_); refine goesL_ (some 46) rfl rfl Try.func27 (by kernel_rfl) rfl #[.int .i64 t168, .int .i64 t173] rfl (by (try simp only [List.map_toArray, List.map_cons, List.map_nil]); first | done | rfl | (simp only [List.length_drop, List.length_take]; rfl)) ?_; (with_reducible refine (num_Sub.calls t168 t173 t174 true _ A20.out).mono ?_); rintro e w' ⟨rfl, ⟨nd, rfl⟩⟩; refine ⟨_, rfl, ?_⟩) | ((with_reducible refine gate_callee (f := 29) rfl ?_); refine goesL_ (some 51) rfl rfl Try.func29 (by kernel_rfl) rfl #[.int .i64 t174, .int .i64 86400] rfl (by (try simp only [List.map_toArray, List.map_cons, List.map_nil]); first | done | rfl | (simp only [List.length_drop, List.length_take]; rfl)) ?_; (with_reducible refine (num_Div.calls t174 86400 t176 t177 t178 _ A21.out).mono ?_); rintro e w' ⟨rfl, ⟨nd, rfl⟩⟩; refine ⟨_, rfl, ?_⟩) | ((with_reducible refine gate_callee (f := 30) rfl ?_); refine goesL_ (some 57) rfl rfl Try.func30 (by kernel_rfl) rfl #[.slice A0 l0.length c0, .int .i64 t168] rfl (by (try simp only [List.map_toArray, List.map_cons, List.map_nil]); first | done | rfl | (simp only [List.length_drop, List.length_take]; rfl)) ?_; (with_reducible refine (record_Step.calls kj7 _ _ l0 t168 t179 _ ?side1 ?side2 A22.out).mono ?_); (case side1 => repeat (first | exact (Kd.C_below HR0.out (by repeat (first | (with_reducible first | exact HB.out | apply below_alloc | apply pw_below_drewN | apply below_drew1) | exact HB.out))) | (with_reducible refine Kd.C_alloc ?_ _) | (with_reducible refine Kd.C_drewN ?_ _) | (with_reducible refine Kd.C_drew ?_))); (case side2 => exact HC0.out); rintro e w35 ⟨rfl, hb⟩; refine ⟨_, rfl, ?_⟩; have n0_ := Aside0.mk (below_step (by repeat (first | (with_reducible first | exact HB.out | apply below_alloc | apply pw_below_drewN | apply below_drew1) | exact HB.out)) hb); clear HB; have HB := n0_; clear n0_; (try clear hb); (try clear hb2); (try clear hk); (try clear hi)))
                    go_ret3
                    exact ⟨by first | rfl | (simp [errW_none, errW_some] <;> rfl) | (simp [*, errW_none, errW_some] <;> rfl), by repeat (first | (with_reducible first | exact HB.out | apply below_alloc | apply pw_below_drewN | apply below_drew1) | exact HB.out)⟩
                  · rw [if_neg c33] at H
                    have c33b0 : decide (2932896 < t176) = false := decide_eq_false c33
                    clear c33
                    simp only [Option.some.injEq, Prod.mk.injEq] at H
                    obtain ⟨rfl, rfl, rfl⟩ := H
                    go_wp2_with (first | ((with_reducible refine gate_callee (f := 28) rfl ?_); refine goesL_ (some 45) rfl rfl Try.func28 (by kernel_rfl) rfl #[.slice A0 l0.length c0, .int .i64 t168] rfl (by (try simp only [List.map_toArray, List.map_cons, List.map_nil]); first | done | rfl | (simp only [List.length_drop, List.length_take]; rfl)) ?_; (with_reducible refine (record_Sum.calls kj7 _ _ l0 t168 t173 _ ?side1 ?side2 A19.out).mono ?_); (case side1 => repeat (first | exact (Kd.C_below HR0.out HB.out) | (with_reducible refine Kd.C_alloc ?_ _) | (with_reducible refine Kd.C_drewN ?_ _) | (with_reducible refine Kd.C_drew ?_))); (case side2 => exact HC0.out); rintro e w36 ⟨rfl, hb⟩; refine ⟨_, rfl, ?_⟩; have n0_ := Aside0.mk (below_step (by repeat (first | (with_reducible first | exact HB.out | apply below_alloc | apply pw_below_drewN | apply below_drew1) | exact HB.out)) hb); clear HB; have HB := n0_; clear n0_; (try clear hb); (try clear hb2); (try clear hk); (try clear hi)) | ((with_reducible refine gate_callee (f := 27) rfl ?_); refine goesL_ (some 46) rfl rfl Try.func27 (by kernel_rfl) rfl #[.int .i64 t168, .int .i64 t173] rfl (by (try simp only [List.map_toArray, List.map_cons, List.map_nil]); first | done | rfl | (simp only [List.length_drop, List.length_take]; rfl)) ?_; (with_reducible refine (num_Sub.calls t168 t173 t174 true _ A20.out).mono ?_); rintro e w' ⟨rfl, ⟨nd, rfl⟩⟩; refine ⟨_, rfl, ?_⟩) | ((with_reducible refine gate_callee (f := 29) rfl ?_); refine goesL_ (some 51) rfl rfl Try.func29 (by kernel_rfl) rfl #[.int .i64 t174, .int .i64 86400] rfl (by (try simp only [List.map_toArray, List.map_cons, List.map_nil]); first | done | rfl | (simp only [List.length_drop, List.length_take]; rfl)) ?_; (with_reducible refine (num_Div.calls t174 86400 t176 t177 t178 _ A21.out).mono ?_); rintro e w' ⟨rfl, ⟨nd, rfl⟩⟩; refine ⟨_, rfl, ?_⟩) | ((with_reducible refine gate_callee (f := 30) rfl ?_); refine goesL_ (some 57) rfl rfl Try.func30 (by kernel_rfl) rfl #[.slice A0 l0.length c0, .int .i64 t168] rfl (by (try simp only [List.map_toArray, List.map_cons, List.map_nil]); first | done | rfl | (simp only [List.length_drop, List.length_take]; rfl)) ?_; (with_reducible refine (record_Step.calls kj7 _ _ l0 t168 t179 _ ?side1 ?side2 A22.out).mono ?_); (case side1 => repeat (first | exact (Kd.C_below HR0.out (by repeat (first | (with_reducible first | exact HB.out | apply below_alloc | apply pw_below_drewN | apply below_drew1) | exact HB.out))) | (with_reducible refine Kd.C_alloc ?_ _) | (with_reducible refine Kd.C_drewN ?_ _) | (with_reducible refine Kd.C_drew ?_))); (case side2 => exact HC0.out); rintro e w37 ⟨rfl, hb⟩; refine ⟨_, rfl, ?_⟩; have n0_ := Aside0.mk (below_step (by repeat (first | (with_reducible first | exact HB.out | apply below_alloc | apply pw_below_drewN | apply below_drew1) | exact HB.out)) hb); clear HB; have HB := n0_; clear n0_; (try clear hb); (try clear hb2); (try clear hk); (try clear hi)))
                    go_ret3
                    exact ⟨by first | rfl | (simp [errW_none, errW_some] <;> rfl) | (simp [*, errW_none, errW_some] <;> rfl), by repeat (first | (with_reducible first | exact HB.out | apply below_alloc | apply pw_below_drewN | apply below_drew1) | exact HB.out)⟩
                · replace c32 := Bool.eq_false_iff.mpr c32
                  subst c32
                  have H1 : (some (0, 0, 9)) = some (r1, r2, r3) := by rw [if_neg (show ¬ (false = true) by decide)] at H; exact H
                  clear H
                  have H := H1
                  clear H1
                  simp only [Option.some.injEq, Prod.mk.injEq] at H
                  obtain ⟨rfl, rfl, rfl⟩ := H
                  go_wp2_with (first | ((with_reducible refine gate_callee (f := 28) rfl ?_); refine goesL_ (some 45) rfl rfl Try.func28 (by kernel_rfl) rfl #[.slice A0 l0.length c0, .int .i64 t168] rfl (by (try simp only [List.map_toArray, List.map_cons, List.map_nil]); first | done | rfl | (simp only [List.length_drop, List.length_take]; rfl)) ?_; (with_reducible refine (record_Sum.calls kj7 _ _ l0 t168 t173 _ ?side1 ?side2 A19.out).mono ?_); (case side1 => repeat (first | exact (Kd.C_below HR0.out HB.out) | (with_reducible refine Kd.C_alloc ?_ _) | (with_reducible refine Kd.C_drewN ?_ _) | (with_reducible refine Kd.C_drew ?_))); (case side2 => exact HC0.out); rintro e w38 ⟨rfl, hb⟩; refine ⟨_, rfl, ?_⟩; have n0_ := Aside0.mk (below_step (by repeat (first | (with_reducible first | exact HB.out | apply below_alloc | apply pw_below_drewN | apply below_drew1) | exact HB.out)) hb); clear HB; have HB := n0_; clear n0_; (try clear hb); (try clear hb2); (try clear hk); (try clear hi)) | ((with_reducible refine gate_callee (f := 27) rfl ?_); refine goesL_ (some 46) rfl rfl Try.func27 (by kernel_rfl) rfl #[.int .i64 t168, .int .i64 t173] rfl (by (try simp only [List.map_toArray, List.map_cons, List.map_nil]); first | done | rfl | (simp only [List.length_drop, List.length_take]; rfl)) ?_; (with_reducible refine (num_Sub.calls t168 t173 t174 false _ A20.out).mono ?_); rintro e w' ⟨rfl, ⟨nd, rfl⟩⟩; refine ⟨_, rfl, ?_⟩) | ((with_reducible refine gate_callee (f := 29) rfl ?_); refine goesL_ (some 51) rfl rfl Try.func29 (by kernel_rfl) rfl #[.int .i64 t174, .int .i64 86400] rfl (by (try simp only [List.map_toArray, List.map_cons, List.map_nil]); first | done | rfl | (simp only [List.length_drop, List.length_take]; rfl)) ?_; (with_reducible refine (num_Div.calls t174 86400 t176 t177 t178 _ A21.out).mono ?_); rintro e w' ⟨rfl, ⟨nd, rfl⟩⟩; refine ⟨_, rfl, ?_⟩) | ((with_reducible refine gate_callee (f := 30) rfl ?_); refine goesL_ (some 57) rfl rfl Try.func30 (by kernel_rfl) rfl #[.slice A0 l0.length c0, .int .i64 t168] rfl (by (try simp only [List.map_toArray, List.map_cons, List.map_nil]); first | done | rfl | (simp only [List.length_drop, List.length_take]; rfl)) ?_; (with_reducible refine (record_Step.calls kj7 _ _ l0 t168 t179 _ ?side1 ?side2 A22.out).mono ?_); (case side1 => repeat (first | exact (Kd.C_below HR0.out (by repeat (first | (with_reducible first | exact HB.out | apply below_alloc | apply pw_below_drewN | apply below_drew1) | exact HB.out))) | (with_reducible refine Kd.C_alloc ?_ _) | (with_reducible refine Kd.C_drewN ?_ _) | (with_reducible refine Kd.C_drew ?_))); (case side2 => exact HC0.out); rintro e w39 ⟨rfl, hb⟩; refine ⟨_, rfl, ?_⟩; have n0_ := Aside0.mk (below_step (by repeat (first | (with_reducible first | exact HB.out | apply below_alloc | apply pw_below_drewN | apply below_drew1) | exact HB.out)) hb); clear HB; have HB := n0_; clear n0_; (try clear hb); (try clear hb2); (try clear hk); (try clear hi)))
                  go_ret3
                  exact ⟨by first | rfl | (simp [errW_none, errW_some] <;> rfl) | (simp [*, errW_none, errW_some] <;> rfl), by repeat (first | (with_reducible first | exact HB.out | apply below_alloc | apply pw_below_drewN | apply below_drew1) | exact HB.out)⟩
            · replace c18 := Bool.eq_false_iff.mpr c18
              subst c18
              have H1 : (some (0, 0, 9)) = some (r1, r2, r3) := by rw [if_neg (show ¬ (false = true) by decide)] at H; exact H
              clear H
              have H := H1
              clear H1
              simp only [Option.some.injEq, Prod.mk.injEq] at H
              obtain ⟨rfl, rfl, rfl⟩ := H
              go_wp2
              go_ret3
              exact ⟨by first | rfl | (simp [errW_none, errW_some] <;> rfl) | (simp [*, errW_none, errW_some] <;> rfl), by repeat (first | (with_reducible first | exact HB.out | apply below_alloc | apply pw_below_drewN | apply below_drew1) | exact HB.out)⟩
  · replace c5 := Bool.eq_false_iff.mpr c5
    subst c5
    have H1 : (some (0, 0, 1)) = some (r1, r2, r3) := by rw [if_neg (show ¬ (false = true) by decide)] at H; exact H
    clear H
    have H := H1
    clear H1
    simp only [Option.some.injEq, Prod.mk.injEq] at H
    obtain ⟨rfl, rfl, rfl⟩ := H
    go_enter Try.func10, Try.ntmps10
    go_wp2_with (first | ((with_reducible refine gate_callee (f := 25) rfl ?_); refine goesL_ (some 13) rfl rfl Try.func25 (by kernel_rfl) rfl #[.int .i64 a1, .int .i64 63072000] rfl (by (try simp only [List.map_toArray, List.map_cons, List.map_nil]); first | done | rfl | (simp only [List.length_drop, List.length_take]; rfl)) ?_; (with_reducible refine (num_Add.calls a1 63072000 t168 t169 _ A3.out).mono ?_); rintro e w' ⟨rfl, ⟨nd, rfl⟩⟩; refine ⟨_, rfl, ?_⟩) | ((with_reducible refine gate_callee (f := 18) rfl ?_); refine goesL_ (some 18) rfl rfl Try.func18 (by kernel_rfl) rfl #[.slice A0 l0.length c0] rfl (by (try simp only [List.map_toArray, List.map_cons, List.map_nil]); first | done | rfl | (simp only [List.length_drop, List.length_take]; rfl)) ?_; (with_reducible refine (scale_Known.calls k _ _ l0 false _ ?side1 ?side2 A4.out).mono ?_); (case side1 => repeat (first | exact HR0.out | (with_reducible refine Kd.C_alloc ?_ _) | (with_reducible refine Kd.C_drewN ?_ _) | (with_reducible refine Kd.C_drew ?_))); (case side2 => exact HC0.out); rintro e w40 ⟨rfl, hb⟩; refine ⟨_, rfl, ?_⟩; have n0_ := Aside0.mk (below_step (by repeat (first | (with_reducible first | exact HB.out | apply below_alloc | apply pw_below_drewN | apply below_drew1) | exact HB.out)) hb); clear HB; have HB := n0_; clear n0_; (try clear hb); (try clear hb2); (try clear hk); (try clear hi)))
    go_ret3
    exact ⟨by first | rfl | (simp [errW_none, errW_some] <;> rfl) | (simp [*, errW_none, errW_some] <;> rfl), by repeat (first | (with_reducible first | exact HB.out | apply below_alloc | apply pw_below_drewN | apply below_drew1) | exact HB.out)⟩

/-! ### api_Leap_int: function 52 -/
-- by hand: wip/hand
def api_Leap_int.cnt (l : List S53) (d : Int) : Nat := l.countP (fun y => decide (y.f0 < d))
/-- rows that are searched: not too long, in order, of days that are not too great -/
def api_Leap_int.Fair (l : List S53) (d : Int) : Prop := l.length < 4611686018427387904 ∧ l.Pairwise (fun x y => x.f0 ≤ y.f0) ∧ (∀ y ∈ l, -1152921504606846976 ≤ y.f0 ∧ y.f0 ≤ 1152921504606846976) ∧ -1152921504606846976 ≤ d ∧ d ≤ 1152921504606846976
instance (l : List S53) (d : Int) : Decidable (api_Leap_int.Fair l d) := by unfold api_Leap_int.Fair; exact inferInstance
def api_Leap_int.f (l0 : List (S53)) (a1 : Int) (a2 : Nat) : Option (Int × Bool) :=
  if api_Leap_int.Fair l0 a1 ∧ a2 = 53 then some (((api_Leap_int.cnt l0 a1 : Nat) : Int), decide (api_Leap_int.cnt l0 a1 < l0.length) && decide ((l0.getD (api_Leap_int.cnt l0 a1) z53).f0 = a1)) else none
/-- the closure of step: how far a leap's day is behind a day -/
theorem api_Leap_int.clo (x : S53) (d : Int) (w W : World) (hb : Below w.heap.size w W) :
    Calls Try.prog 53 #[.agg #[.int .i64 x.f0, .int .i64 x.f1, .bool x.f2], .int .i64 d] W fun e w' => e = .returned (.int .i64 (wrap64 (x.f0 - d))) ∧ Below w.heap.size w w' := by
  have hu := Try.underlying53
  go_enter Try.func53, Try.ntmps53
  go_wp2
  all_goals (try go_region)
  all_goals (try go_wp2)
  all_goals go_ret
  all_goals exact ⟨by first | rfl | simp [wrap64], by first | exact hb.alloc hb.size _ | exact hb | repeat (first | exact hb | apply below_alloc | apply below_drew1 | apply pw_below_drewN)⟩
theorem api_Leap_int.cntb (p : S53 → Bool) : ∀ (l : List S53) (i : Nat), i ≤ l.length → (∀ t, t < i → p (l.getD t z53) = true) → (∀ t, i ≤ t → t < l.length → p (l.getD t z53) = false) → l.countP p = i
  | [], i, hi, _, _ => by simp at hi; simp [hi]
  | a :: r, 0, _, _, h2 => by
    rw [List.countP_eq_zero]
    intro x hx
    obtain ⟨t, ht, rfl⟩ := List.getElem_of_mem hx
    have := h2 t (Nat.zero_le _) ht
    simp only [List.getD_eq_getElem?_getD, List.getElem?_eq_getElem ht, Option.getD_some] at this
    simp [this]
  | a :: r, i + 1, hi, h1, h2 => by
    have ha : p a = true := by simpa using h1 0 (Nat.succ_pos _)
    rw [List.countP_cons_of_pos ha, api_Leap_int.cntb p r i (by simpa using hi) (fun t ht => by simpa using h1 (t + 1) (by omega)) (fun t h3 h4 => by simpa using h2 (t + 1) (by omega) (by simpa using h4))]
theorem api_Leap_int.asc_at {l : List S53} (h : l.Pairwise (fun x y => x.f0 ≤ y.f0)) (a b : Nat) (hab : a ≤ b) (hb : b < l.length) : (l.getD a z53).f0 ≤ (l.getD b z53).f0 := by
  have ha : a < l.length := by omega
  simp only [List.getD_eq_getElem?_getD, List.getElem?_eq_getElem ha, List.getElem?_eq_getElem hb, Option.getD_some]
  by_cases e : a = b
  · subst e; exact Int.le_refl _
  · exact List.pairwise_iff_getElem.mp h a b ha hb (by omega)
set_option maxHeartbeats 4000000 in
set_option maxRecDepth 1000000 in
theorem api_Leap_int.calls (A0 : Option Addr) (c0 : Nat) (l0 : List (S53)) (a1 : Int) (a2 : Nat) (r1 : Int) (r2 : Bool) (w : World) (hr0 : Kd.C k53 w A0 l0.length l0) (hc0 : l0.length ≤ c0) (h : api_Leap_int.f l0 a1 a2 = some (r1, r2)) :
    Calls Try.prog 52 #[.slice A0 l0.length c0, .int .i64 a1, .func (.func a2) #[] #[]] w fun e w' => e = .returned (.tuple #[.int .i64 r1, .bool r2]) ∧ Below w.heap.size w w' := by
  unfold api_Leap_int.f at h
  by_cases hs : api_Leap_int.Fair l0 a1 ∧ a2 = 53
  case neg => rw [if_neg hs] at h; exact absurd h (by simp)
  rw [if_pos hs] at h
  obtain ⟨⟨hsz, hasc, hdays, hd1, hd2⟩, rfl⟩ := hs
  generalize hcnt : api_Leap_int.cnt l0 a1 = cnt at h
  have CN : Aside (api_Leap_int.cnt l0 a1 = cnt) := hcnt
  clear hcnt
  have E := Option.some.inj h
  simp only [Prod.mk.injEq] at E
  obtain ⟨rfl, hfin⟩ := E
  have FIN : Aside ((decide (cnt < l0.length) && decide ((l0.getD cnt z53).f0 = a1)) = r2) := hfin
  have ASC : Aside (l0.Pairwise (fun x y => x.f0 ≤ y.f0)) := hasc
  have DAYS : Aside ((∀ y ∈ l0, -1152921504606846976 ≤ y.f0 ∧ y.f0 ≤ 1152921504606846976) ∧ -1152921504606846976 ≤ a1 ∧ a1 ≤ 1152921504606846976) := ⟨hdays, hd1, hd2⟩
  have HC := Aside0.mk hr0
  clear hr0 hc0 h hfin hasc hdays hd1 hd2
  have u3 := Try.underlying3
  have uu := Try.underlying65
  go_enter Try.func52, Try.ntmps52
  go_wp2
  go_loopg [9, 10] l0.length (fun kx s9 s10 wr => ∃ lo hi : Nat, s9 = .int .i64 lo ∧ s10 = .int .i64 hi ∧ lo ≤ hi ∧ hi ≤ l0.length ∧ hi - lo ≤ kx ∧ Aside (Below w.heap.size w wr) ∧
    Aside ((∀ t, t < lo → (l0.getD t z53).f0 < a1) ∧ (∀ t, hi ≤ t → t < l0.length → a1 ≤ (l0.getD t z53).f0)))
  case atStart => exact ⟨0, l0.length, rfl, rfl, Nat.zero_le _, Nat.le_refl _, by omega, Below.refl _ w, (⟨fun t ht => absurd ht (Nat.not_lt_zero _), fun t h1 h2 => by omega⟩ : (∀ t, t < 0 → (l0.getD t z53).f0 < a1) ∧ (∀ t, l0.length ≤ t → t < l0.length → a1 ≤ (l0.getD t z53).f0))⟩
  case round =>
    obtain ⟨lo, hi, rfl, rfl, hlh, hin, hg, BW, I⟩ := hrel
    have vals : ∀ t, t < l0.length → wrap64 ((l0.getD t z53).f0 - a1) = (l0.getD t z53).f0 - a1 := by
      intro t ht
      have m : l0.getD t z53 ∈ l0 := by simp [List.getD, ht]
      have := DAYS.out.1 _ m; have := DAYS.out.2; unfold wrap64; omega
    have VALS : Aside (∀ t, t < l0.length → wrap64 ((l0.getD t z53).f0 - a1) = (l0.getD t z53).f0 - a1) := vals
    clear vals
    by_cases hlt : lo < hi
    · have hmid : (lo + hi) / 2 < l0.length := by omega
      obtain ⟨ad, e0, hx0, hx1, hx2⟩ := at_T53 (Kd.C_below HC.out BW.out) (((lo + hi) / 2 : Nat) : Int) (by omega) (by omega)
      cases e0
      simp only [Int.toNat_natCast] at hx0 hx1 hx2
      have hv := VALS.out ((lo + hi) / 2) hmid
      have hy : rd_T53 l0 (((lo + hi) / 2 : Nat) : Int) = l0.getD ((lo + hi) / 2) z53 := by unfold rd_T53; rw [Int.toNat_natCast]
      rw [hy] at hx0 hx1 hx2
      have hcall := api_Leap_int.clo (l0.getD ((lo + hi) / 2) z53) a1 w wr BW.out
      rw [hv] at hcall
      clear hv hy
      generalize hgy : l0.getD ((lo + hi) / 2) z53 = y at hx0 hx1 hx2 hcall
      have Y : Aside (l0.getD ((lo + hi) / 2) z53 = y) := hgy
      clear hgy
      generalize hgv : y.f0 - a1 = v at hcall
      have V : Aside (y.f0 - a1 = v) := hgv
      clear hgv
      by_cases hyx : v < 0
      · go_wp2_with (first | (go_at_call 53; refine hcall.mono ?_; rintro e w' ⟨rfl, hb'⟩) | (go_at_fn 53; refine hcall.mono ?_; rintro e w' ⟨rfl, hb'⟩))
        go_roundg (hi - ((lo + hi) / 2 + 1))
        case measure => omega
        case rel =>
          have I2 : Aside ((∀ t, t < (lo + hi) / 2 + 1 → (l0.getD t z53).f0 < a1) ∧ (∀ t, hi ≤ t → t < l0.length → a1 ≤ (l0.getD t z53).f0)) := ⟨fun t ht => by
            have a := api_Leap_int.asc_at ASC.out t ((lo + hi) / 2) (by omega) (by omega)
            rw [Y.out] at a; have := V.out; omega, I.out.2⟩
          exact ⟨(lo + hi) / 2 + 1, hi, by first | rfl | (refine congrArg (Value.int .i64) ?_; omega), rfl, by omega, hin, Nat.le_refl _, hb', I2⟩
      · go_wp2_with (first | (go_at_call 53; refine hcall.mono ?_; rintro e w' ⟨rfl, hb'⟩) | (go_at_fn 53; refine hcall.mono ?_; rintro e w' ⟨rfl, hb'⟩))
        go_roundg ((lo + hi) / 2 - lo)
        case measure => omega
        case rel =>
          have I2 : Aside ((∀ t, t < lo → (l0.getD t z53).f0 < a1) ∧ (∀ t, (lo + hi) / 2 ≤ t → t < l0.length → a1 ≤ (l0.getD t z53).f0)) := ⟨I.out.1, fun t ht htn => by
            have a := api_Leap_int.asc_at ASC.out ((lo + hi) / 2) t ht htn
            rw [Y.out] at a; have := V.out; omega⟩
          exact ⟨lo, (lo + hi) / 2, rfl, by first | rfl | (refine congrArg (Value.int .i64) ?_; omega), by omega, by omega, Nat.le_refl _, hb', I2⟩
    · obtain rfl : hi = lo := by omega
      have ecnt : cnt = hi := by
        rw [← CN.out]
        refine api_Leap_int.cntb _ l0 hi hin (fun t ht => ?_) (fun t h3 h4 => ?_)
        · exact decide_eq_true (I.out.1 t ht)
        · exact decide_eq_false (by have := I.out.2 t h3 h4; omega)
      subst ecnt
      by_cases hn : cnt < l0.length
      · obtain ⟨ad, e0, hx0, hx1, hx2⟩ := at_T53 (Kd.C_below HC.out BW.out) (cnt : Int) (by omega) (by omega)
        cases e0
        simp only [Int.toNat_natCast] at hx0 hx1 hx2
        have hv := VALS.out cnt hn
        have hy : rd_T53 l0 (cnt : Int) = l0.getD cnt z53 := by unfold rd_T53; rw [Int.toNat_natCast]
        rw [hy] at hx0 hx1 hx2
        have hcall := api_Leap_int.clo (l0.getD cnt z53) a1 w wr BW.out
        rw [hv] at hcall
        clear hv hy
        generalize hgy : l0.getD cnt z53 = y at hx0 hx1 hx2 hcall
        have Y : Aside (l0.getD cnt z53 = y) := hgy
        clear hgy
        generalize hgv : y.f0 - a1 = v at hcall
        have V : Aside (y.f0 - a1 = v) := hgv
        clear hgv
        by_cases hyx : v = 0
        · go_wp2_with (first | (go_at_call 53; refine hcall.mono ?_; rintro e w' ⟨rfl, hb'⟩) | (go_at_fn 53; refine hcall.mono ?_; rintro e w' ⟨rfl, hb'⟩))
          go_ret2
          refine ⟨?_, hb'⟩
          have : y.f0 = a1 := by have := V.out; omega
          rw [← FIN.out, Y.out]; simp [hn, hyx, this]
        · go_wp2_with (first | (go_at_call 53; refine hcall.mono ?_; rintro e w' ⟨rfl, hb'⟩) | (go_at_fn 53; refine hcall.mono ?_; rintro e w' ⟨rfl, hb'⟩))
          go_ret2
          refine ⟨?_, hb'⟩
          have : ¬ y.f0 = a1 := by have := V.out; omega
          rw [← FIN.out, Y.out]; simp [hn, hyx, this]
      · go_wp2
        go_ret2
        exact ⟨by rw [← FIN.out]; simp [hn], BW.out⟩

/-! ### scale_step: function 35 -/
def scale_step.f (k : Nat) (l0 : List (S45)) (a1 : Int) : Option (Int) := (record_Table.f k l0).bind fun bt180 => ((api_Leap_int.f bt180.1 a1 53).bind fun bt187 => (if bt187.2 = true then (if 0 ≤ bt187.1 then (if bt187.1 < (bt180.1.length : Int) then (some ((rd_T53 bt180.1 bt187.1).f1)) else (none)) else (none)) else (some 0)))
theorem scale_step.mono : ∀ a0 a1 k, LeO (scale_step.f k a0 a1) (scale_step.f (k + 1) a0 a1) := by
  intro a0 a1 k
  unfold scale_step.f
  repeat' first
      | (with_reducible exact record_Table.mono _ _)
      | (with_reducible exact LeO.refl _)
      | (with_reducible exact LeO.none _)
      | (with_reducible refine LeO.ite ?_ ?_)
      | (with_reducible refine LeO.bind ?_ (fun _ => ?_))
      | exact record_Table.mono _ _
      | exact LeO.none _
      | refine LeO.ite ?_ ?_
      | refine LeO.bind ?_ (fun _ => ?_)
set_option maxHeartbeats 8000000 in
set_option maxRecDepth 100000 in
theorem scale_step.calls (k : Nat) (A0 : Option Addr) (c0 : Nat) (l0 : List (S45)) (a1 : Int) (r : Int) (w : World) (hr0 : Kd.C k45 w A0 l0.length l0) (hc0 : l0.length ≤ c0) (h : scale_step.f k l0 a1 = some r) :
    Calls Try.prog 35 #[.slice A0 l0.length c0, .int .i64 a1] w fun e w' => e = .returned (.int .i64 r) ∧ Below w.heap.size w w' := by
  have hu38 := Try.underlying38
  have HR0 := Aside0.mk hr0
  have HC0 := Aside0.mk hc0
  clear hr0 hc0
  have HB := Aside0.mk (Below.refl w.heap.size w)
  have H : ((record_Table.f k l0).bind fun bt180 => ((api_Leap_int.f bt180.1 a1 53).bind fun bt187 => (if bt187.2 = true then (if 0 ≤ bt187.1 then (if bt187.1 < (bt180.1.length : Int) then (some ((rd_T53 bt180.1 bt187.1).f1)) else (none)) else (none)) else (some 0)))) = some r := h
  clear h
  replace H := Option.bind_eq_some_iff.mp H
  obtain ⟨⟨t180, t183, t184, t185⟩, A30, H⟩ := H
  replace H : ((api_Leap_int.f t180 a1 53).bind fun bt187 => (if bt187.2 = true then (if 0 ≤ bt187.1 then (if bt187.1 < (t180.length : Int) then (some ((rd_T53 t180 bt187.1).f1)) else (none)) else (none)) else (some 0))) = some r := H
  have A3 := Aside0.mk A30
  clear A30
  replace H := Option.bind_eq_some_iff.mp H
  obtain ⟨⟨t187, t188⟩, A40, H⟩ := H
  replace H : (if t188 = true then (if 0 ≤ t187 then (if t187 < (t180.length : Int) then (some ((rd_T53 t180 t187).f1)) else (none)) else (none)) else (some 0)) = some r := H
  have A4 := Aside0.mk A40
  clear A40
  by_cases c5 : t188 = true
  · subst c5
    have H1 : (if 0 ≤ t187 then (if t187 < (t180.length : Int) then (some ((rd_T53 t180 t187).f1)) else (none)) else (none)) = some r := by rw [if_pos rfl] at H; exact H
    clear H
    have H := H1
    clear H1
    by_cases c6 : 0 ≤ t187
    · rw [if_pos c6] at H
      have c6b0 : decide (0 ≤ t187) = true := decide_eq_true c6
      clear c6
      by_cases c7 : t187 < (t180.length : Int)
      · rw [if_pos c7] at H
        have c7b0 : decide (t187 < (t180.length : Int)) = true := decide_eq_true c7
        clear c7
        obtain rfl := Option.some.inj H
        go_enter Try.func35, Try.ntmps35
        go_wp2_with (first | ((with_reducible refine gate_callee (f := 39) rfl ?_); refine goesL_ (some 11) rfl rfl Try.func39 (by kernel_rfl) rfl #[.slice A0 l0.length c0] rfl (by (try simp only [List.map_toArray, List.map_cons, List.map_nil]); first | done | rfl | (simp only [List.length_drop, List.length_take]; rfl)) ?_; (with_reducible refine (record_Table.calls k _ _ l0 t180 t183 t184 t185 _ ?side1 ?side2 A3.out).mono ?_); (case side1 => repeat (first | exact HR0.out | (with_reducible refine Kd.C_alloc ?_ _) | (with_reducible refine Kd.C_drewN ?_ _) | (with_reducible refine Kd.C_drew ?_))); (case side2 => exact HC0.out); rintro e w8 ⟨v181, rfl, ho0, hb⟩; refine ⟨_, rfl, ?_⟩; have n0_ := Aside0.mk (Kd.R_lower ho0 (below_size (by repeat (first | (with_reducible first | exact HB.out | apply below_alloc | apply pw_below_drewN | apply below_drew1) | exact HB.out)))); have n1_ := Aside0.mk (below_step (by repeat (first | (with_reducible first | exact HB.out | apply below_alloc | apply pw_below_drewN | apply below_drew1) | exact HB.out)) hb); clear HB; have HO182 := n0_; have HB := n1_; clear n0_ n1_; (try clear hb); (try clear hb2); (try clear hk); (try clear hi); (try clear ho0)) | ((with_reducible refine gate_dst (N := 5) rfl ?_); refine box_event ?hg (N := 5) ?hd (cs := #[.slice none 0 0, .bool false, .int .i64 0]) (t := 38) ?hr ?_; (case hd => rfl); (case hg => rfl); (case hr => first | (go_simp; done) | (go_simp; rfl)); intro gb186 hg w9 hbox hb; have n0_ := Aside0.mk (Kd.R_below (by (with_reducible repeat (first | apply Kd.R_alloc | apply Kd.R_drewN | apply Kd.R_drew)); exact HO182.out) hb); have n1_ := Aside0.mk (below_step (by repeat (first | (with_reducible first | exact HB.out | apply below_alloc | apply pw_below_drewN | apply below_drew1) | exact HB.out)) hb); have n2_ := Aside0.mk (hbox); have n3_ := Aside0.mk ((by rw [hg]; exact (below_size (by repeat (first | (with_reducible first | exact HB.out | apply below_alloc | apply pw_below_drewN | apply below_drew1) | exact HB.out))) : w.heap.size ≤ gb186)); have n4_ := Aside0.mk ((by rw [hg]; exact (below_size (by repeat (first | (with_reducible first | exact HB.out | apply below_alloc | apply pw_below_drewN | apply below_drew1) | exact HB.out))) : w.heap.size ≤ gb186)); clear HO182; clear HB; have HO182 := n0_; have HB := n1_; have BK186 := n2_; have GW186 := n3_; have GE186 := n4_; clear n0_ n1_ n2_ n3_ n4_; clear hb hbox hg; obtain ⟨Ao10, co10, eo10⟩ := Kd.R_slice HO182.out; subst eo10; have hcz11_0 : w9.cell? ⟨gb186, 0, none⟩ = some (.slice none 0 0) := (blk_cell BK186.out 0).trans rfl; have hcz11_1 : w9.cell? ⟨gb186, 1, none⟩ = some (.bool false) := (blk_cell BK186.out 1).trans rfl; have hcz11_2 : w9.cell? ⟨gb186, 2, none⟩ = some (.int .i64 0) := (blk_cell BK186.out 2).trans rfl; have hfz11_0 := blk_frozen BK186.out 0; have hfz11_1 := blk_frozen BK186.out 1; have hfz11_2 := blk_frozen BK186.out 2) | ((with_reducible refine gate_callee (f := 52) rfl ?_); refine goesL_ (some 18) rfl rfl Try.func52 (by kernel_rfl) rfl #[.slice Ao10 t180.length co10, .int .i64 a1, .func (.func 53) #[] #[]] rfl (by (try simp only [List.map_toArray, List.map_cons, List.map_nil]); first | done | rfl | (simp only [List.length_drop, List.length_take]; rfl)) ?_; (with_reducible refine (api_Leap_int.calls _ _ t180 a1 53 t187 true _ ?side1 ?side2 A4.out).mono ?_); (case side1 => refine (Kd.R_reads' (e := 53) (base := w.heap.size) (ok := fun k_ => True) (n := t180.length) (c := co10) ?_).2.2; exact (by (with_reducible repeat (first | apply Kd.R_alloc | apply Kd.R_drewN | apply Kd.R_drew)); exact (Kd.R_mono (Kd.R_far (p := ⟨gb186, 2, none⟩) (Kd.R_far (p := ⟨gb186, 1, none⟩) (Kd.R_far (p := ⟨gb186, 0, none⟩) (Kd.R_types HO182.out BK186.out (by decide)) (fun _ hk => hk.2) (.slice Ao10 t180.length co10)) (fun _ hk => hk.2) (.bool t183)) (fun _ hk => hk.2) (.int .i64 t184)) (fun _ h_ => h_.1)))); (case side2 => exact (Kd.R_reads' HO182.out).2.1); rintro e w12 ⟨rfl, hb⟩; refine ⟨_, rfl, ?_⟩; have n0_ := Aside0.mk (Kd.R_below (by (with_reducible repeat (first | apply Kd.R_alloc | apply Kd.R_drewN | apply Kd.R_drew)); exact (Kd.R_mono (Kd.R_far (p := ⟨gb186, 2, none⟩) (Kd.R_far (p := ⟨gb186, 1, none⟩) (Kd.R_far (p := ⟨gb186, 0, none⟩) (Kd.R_types HO182.out BK186.out (by decide)) (fun _ hk => hk.2) (.slice Ao10 t180.length co10)) (fun _ hk => hk.2) (.bool t183)) (fun _ hk => hk.2) (.int .i64 t184)) (fun _ h_ => h_.1))) hb); have n1_ := Aside0.mk (blk_below (g := gb186) (o := .cells #[.slice Ao10 t180.length co10, .bool t183, .int .i64 t184] 38 (0, 0)) (by (with_reducible repeat (first | refine blk_drewN ?_ _ | refine blk_drew ?_ | refine blk_alloc ?_ _)); refine blk_put (cs := #[.slice Ao10 t180.length co10, .bool t183, .int .i64 0]) ?_ 2 _ rfl; (with_reducible repeat (first | refine blk_drewN ?_ _ | refine blk_drew ?_ | refine blk_alloc ?_ _)); refine blk_put (cs := #[.slice Ao10 t180.length co10, .bool false, .int .i64 0]) ?_ 1 _ rfl; (with_reducible repeat (first | refine blk_drewN ?_ _ | refine blk_drew ?_ | refine blk_alloc ?_ _)); refine blk_put (cs := #[.slice none 0 0, .bool false, .int .i64 0]) ?_ 0 _ rfl; (with_reducible repeat (first | refine blk_drewN ?_ _ | refine blk_drew ?_ | refine blk_alloc ?_ _)); exact BK186.out) hb); have n2_ := Aside0.mk (below_step (by repeat (first | (with_reducible first | exact HB.out | apply below_alloc | apply pw_below_drewN | apply below_drew1 | refine below_set ?_ GE186.out) | exact HB.out)) hb); clear HO182; clear BK186; clear HB; have HO182 := n0_; have BK186 := n1_; have HB := n2_; clear n0_ n1_ n2_; (try clear hb); (try clear hb2); (try clear hk); (try clear hi); have hcz13_0 : w12.cell? ⟨gb186, 0, none⟩ = some (.slice Ao10 t180.length co10) := (blk_cell BK186.out 0).trans rfl; have hcz13_1 : w12.cell? ⟨gb186, 1, none⟩ = some (.bool t183) := (blk_cell BK186.out 1).trans rfl; have hcz13_2 : w12.cell? ⟨gb186, 2, none⟩ = some (.int .i64 t184) := (blk_cell BK186.out 2).trans rfl; have hfz13_0 := blk_frozen BK186.out 0; have hfz13_1 := blk_frozen BK186.out 1; have hfz13_2 := blk_frozen BK186.out 2; have p189 : 0 ≤ (t187 : Int) := of_decide_eq_true (by first | (with_reducible assumption) | assumption); have q189 : t187 < (t180.length : Int) := of_decide_eq_true (by first | (with_reducible assumption) | assumption); obtain ⟨ad189, e189, hx189_0, hx189_1, hx189_2⟩ := at_T53 (Kd.R_reads' HO182.out).2.2 t187 p189 q189; cases e189; replace p189 := eq_true p189; replace q189 := eq_true q189))
        go_ret
        exact ⟨by first | rfl | (simp [errW_none, errW_some] <;> rfl) | (simp [*, errW_none, errW_some] <;> rfl), by repeat (first | (with_reducible first | exact HB.out | apply below_alloc | apply pw_below_drewN | apply below_drew1 | refine below_set ?_ GE186.out) | exact HB.out)⟩
      · rw [if_neg c7] at H
        exact absurd H (by simp)
    · rw [if_neg c6] at H
      exact absurd H (by simp)
  · replace c5 := Bool.eq_false_iff.mpr c5
    subst c5
    have H1 : (some 0) = some r := by rw [if_neg (show ¬ (false = true) by decide)] at H; exact H
    clear H
    have H := H1
    clear H1
    obtain rfl := Option.some.inj H
    go_enter Try.func35, Try.ntmps35
    go_wp2_with (first | ((with_reducible refine gate_callee (f := 39) rfl ?_); refine goesL_ (some 11) rfl rfl Try.func39 (by kernel_rfl) rfl #[.slice A0 l0.length c0] rfl (by (try simp only [List.map_toArray, List.map_cons, List.map_nil]); first | done | rfl | (simp only [List.length_drop, List.length_take]; rfl)) ?_; (with_reducible refine (record_Table.calls k _ _ l0 t180 t183 t184 t185 _ ?side1 ?side2 A3.out).mono ?_); (case side1 => repeat (first | exact HR0.out | (with_reducible refine Kd.C_alloc ?_ _) | (with_reducible refine Kd.C_drewN ?_ _) | (with_reducible refine Kd.C_drew ?_))); (case side2 => exact HC0.out); rintro e w14 ⟨v181, rfl, ho0, hb⟩; refine ⟨_, rfl, ?_⟩; have n0_ := Aside0.mk (Kd.R_lower ho0 (below_size (by repeat (first | (with_reducible first | exact HB.out | apply below_alloc | apply pw_below_drewN | apply below_drew1) | exact HB.out)))); have n1_ := Aside0.mk (below_step (by repeat (first | (with_reducible first | exact HB.out | apply below_alloc | apply pw_below_drewN | apply below_drew1) | exact HB.out)) hb); clear HB; have HO182 := n0_; have HB := n1_; clear n0_ n1_; (try clear hb); (try clear hb2); (try clear hk); (try clear hi); (try clear ho0)) | ((with_reducible refine gate_dst (N := 5) rfl ?_); refine box_event ?hg (N := 5) ?hd (cs := #[.slice none 0 0, .bool false, .int .i64 0]) (t := 38) ?hr ?_; (case hd => rfl); (case hg => rfl); (case hr => first | (go_simp; done) | (go_simp; rfl)); intro gb186 hg w15 hbox hb; have n0_ := Aside0.mk (Kd.R_below (by (with_reducible repeat (first | apply Kd.R_alloc | apply Kd.R_drewN | apply Kd.R_drew)); exact HO182.out) hb); have n1_ := Aside0.mk (below_step (by repeat (first | (with_reducible first | exact HB.out | apply below_alloc | apply pw_below_drewN | apply below_drew1) | exact HB.out)) hb); have n2_ := Aside0.mk (hbox); have n3_ := Aside0.mk ((by rw [hg]; exact (below_size (by repeat (first | (with_reducible first | exact HB.out | apply below_alloc | apply pw_below_drewN | apply below_drew1) | exact HB.out))) : w.heap.size ≤ gb186)); have n4_ := Aside0.mk ((by rw [hg]; exact (below_size (by repeat (first | (with_reducible first | exact HB.out | apply below_alloc | apply pw_below_drewN | apply below_drew1) | exact HB.out))) : w.heap.size ≤ gb186)); clear HO182; clear HB; have HO182 := n0_; have HB := n1_; have BK186 := n2_; have GW186 := n3_; have GE186 := n4_; clear n0_ n1_ n2_ n3_ n4_; clear hb hbox hg; obtain ⟨Ao16, co16, eo16⟩ := Kd.R_slice HO182.out; subst eo16; have hcz17_0 : w15.cell? ⟨gb186, 0, none⟩ = some (.slice none 0 0) := (blk_cell BK186.out 0).trans rfl; have hcz17_1 : w15.cell? ⟨gb186, 1, none⟩ = some (.bool false) := (blk_cell BK186.out 1).trans rfl; have hcz17_2 : w15.cell? ⟨gb186, 2, none⟩ = some (.int .i64 0) := (blk_cell BK186.out 2).trans rfl; have hfz17_0 := blk_frozen BK186.out 0; have hfz17_1 := blk_frozen BK186.out 1; have hfz17_2 := blk_frozen BK186.out 2) | ((with_reducible refine gate_callee (f := 52) rfl ?_); refine goesL_ (some 18) rfl rfl Try.func52 (by kernel_rfl) rfl #[.slice Ao16 t180.length co16, .int .i64 a1, .func (.func 53) #[] #[]] rfl (by (try simp only [List.map_toArray, List.map_cons, List.map_nil]); first | done | rfl | (simp only [List.length_drop, List.length_take]; rfl)) ?_; (with_reducible refine (api_Leap_int.calls _ _ t180 a1 53 t187 false _ ?side1 ?side2 A4.out).mono ?_); (case side1 => refine (Kd.R_reads' (e := 53) (base := w.heap.size) (ok := fun k_ => True) (n := t180.length) (c := co16) ?_).2.2; exact (by (with_reducible repeat (first | apply Kd.R_alloc | apply Kd.R_drewN | apply Kd.R_drew)); exact (Kd.R_mono (Kd.R_far (p := ⟨gb186, 2, none⟩) (Kd.R_far (p := ⟨gb186, 1, none⟩) (Kd.R_far (p := ⟨gb186, 0, none⟩) (Kd.R_types HO182.out BK186.out (by decide)) (fun _ hk => hk.2) (.slice Ao16 t180.length co16)) (fun _ hk => hk.2) (.bool t183)) (fun _ hk => hk.2) (.int .i64 t184)) (fun _ h_ => h_.1)))); (case side2 => exact (Kd.R_reads' HO182.out).2.1); rintro e w18 ⟨rfl, hb⟩; refine ⟨_, rfl, ?_⟩; have n0_ := Aside0.mk (Kd.R_below (by (with_reducible repeat (first | apply Kd.R_alloc | apply Kd.R_drewN | apply Kd.R_drew)); exact (Kd.R_mono (Kd.R_far (p := ⟨gb186, 2, none⟩) (Kd.R_far (p := ⟨gb186, 1, none⟩) (Kd.R_far (p := ⟨gb186, 0, none⟩) (Kd.R_types HO182.out BK186.out (by decide)) (fun _ hk => hk.2) (.slice Ao16 t180.length co16)) (fun _ hk => hk.2) (.bool t183)) (fun _ hk => hk.2) (.int .i64 t184)) (fun _ h_ => h_.1))) hb); have n1_ := Aside0.mk (blk_below (g := gb186) (o := .cells #[.slice Ao16 t180.length co16, .bool t183, .int .i64 t184] 38 (0, 0)) (by (with_reducible repeat (first | refine blk_drewN ?_ _ | refine blk_drew ?_ | refine blk_alloc ?_ _)); refine blk_put (cs := #[.slice Ao16 t180.length co16, .bool t183, .int .i64 0]) ?_ 2 _ rfl; (with_reducible repeat (first | refine blk_drewN ?_ _ | refine blk_drew ?_ | refine blk_alloc ?_ _)); refine blk_put (cs := #[.slice Ao16 t180.length co16, .bool false, .int .i64 0]) ?_ 1 _ rfl; (with_reducible repeat (first | refine blk_drewN ?_ _ | refine blk_drew ?_ | refine blk_alloc ?_ _)); refine blk_put (cs := #[.slice none 0 0, .bool false, .int .i64 0]) ?_ 0 _ rfl; (with_reducible repeat (first | refine blk_drewN ?_ _ | refine blk_drew ?_ | refine blk_alloc ?_ _)); exact BK186.out) hb); have n2_ := Aside0.mk (below_step (by repeat (first | (with_reducible first | exact HB.out | apply below_alloc | apply pw_below_drewN | apply below_drew1 | refine below_set ?_ GE186.out) | exact HB.out)) hb); clear HO182; clear BK186; clear HB; have HO182 := n0_; have BK186 := n1_; have HB := n2_; clear n0_ n1_ n2_; (try clear hb); (try clear hb2); (try clear hk); (try clear hi)))
    go_ret
    exact ⟨by first | rfl | (simp [errW_none, errW_some] <;> rfl) | (simp [*, errW_none, errW_some] <;> rfl), by repeat (first | (with_reducible first | exact HB.out | apply below_alloc | apply pw_below_drewN | apply below_drew1 | refine below_set ?_ GE186.out) | exact HB.out)⟩

/-! ### scale_Length: function 14 -/
def scale_Length.f (k : Nat) (l0 : List (S45)) (a1 : Int) : Option (Int × Int) := (scale_Known.f k l0).bind fun t190 => (if t190 = true then (if a1 < 730 then (some (0, 9)) else (if a1 > 2932896 then (some (0, 9)) else ((scale_step.f k l0 a1).bind fun t191 => (some (wrap64 (86400 + t191), 0))))) else (some (0, 1)))
theorem scale_Length.mono : ∀ a0 a1 k, LeO (scale_Length.f k a0 a1) (scale_Length.f (k + 1) a0 a1) := by
  intro a0 a1 k
  unfold scale_Length.f
  repeat' first
      | (with_reducible exact scale_Known.mono _ _)
      | (with_reducible exact scale_step.mono _ _ _)
      | (with_reducible exact LeO.refl _)
      | (with_reducible exact LeO.none _)
      | (with_reducible refine LeO.ite ?_ ?_)
      | (with_reducible refine LeO.bind ?_ (fun _ => ?_))
      | exact scale_Known.mono _ _
      | exact scale_step.mono _ _ _
      | exact LeO.none _
      | refine LeO.ite ?_ ?_
      | refine LeO.bind ?_ (fun _ => ?_)
set_option maxHeartbeats 8000000 in
set_option maxRecDepth 100000 in
theorem scale_Length.calls (k : Nat) (A0 : Option Addr) (c0 : Nat) (l0 : List (S45)) (a1 : Int) (r1 : Int) (r2 : Int) (w : World) (hr0 : Kd.C k45 w A0 l0.length l0) (hc0 : l0.length ≤ c0) (h : scale_Length.f k l0 a1 = some (r1, r2)) :
    Calls Try.prog 14 #[.slice A0 l0.length c0, .int .i64 a1] w fun e w' => e = .returned (.tuple #[.int .i64 r1, .int .i64 r2]) ∧ Below w.heap.size w w' := by
  have HR0 := Aside0.mk hr0
  have HC0 := Aside0.mk hc0
  clear hr0 hc0
  have HB := Aside0.mk (Below.refl w.heap.size w)
  have H : ((scale_Known.f k l0).bind fun t190 => (if t190 = true then (if a1 < 730 then (some (0, 9)) else (if a1 > 2932896 then (some (0, 9)) else ((scale_step.f k l0 a1).bind fun t191 => (some (wrap64 (86400 + t191), 0))))) else (some (0, 1)))) = some (r1, r2) := h
  clear h
  replace H := Option.bind_eq_some_iff.mp H
  obtain ⟨t190, A30, H⟩ := H
  replace H : (if t190 = true then (if a1 < 730 then (some (0, 9)) else (if a1 > 2932896 then (some (0, 9)) else ((scale_step.f k l0 a1).bind fun t191 => (some (wrap64 (86400 + t191), 0))))) else (some (0, 1))) = some (r1, r2) := H
  have A3 := Aside0.mk A30
  clear A30
  by_cases c4 : t190 = true
  · subst c4
    have H1 : (if a1 < 730 then (some (0, 9)) else (if a1 > 2932896 then (some (0, 9)) else ((scale_step.f k l0 a1).bind fun t191 => (some (wrap64 (86400 + t191), 0))))) = some (r1, r2) := by rw [if_pos rfl] at H; exact H
    clear H
    have H := H1
    clear H1
    by_cases c5 : a1 < 730
    · rw [if_pos c5] at H
      have c5b0 : decide (a1 < 730) = true := decide_eq_true c5
      clear c5
      simp only [Option.some.injEq, Prod.mk.injEq] at H
      obtain ⟨rfl, rfl⟩ := H
      go_enter Try.func14, Try.ntmps14
      go_wp2_with (first | ((with_reducible refine gate_callee (f := 18) rfl ?_); refine goesL_ (some 8) rfl rfl Try.func18 (by kernel_rfl) rfl #[.slice A0 l0.length c0] rfl (by (try simp only [List.map_toArray, List.map_cons, List.map_nil]); first | done | rfl | (simp only [List.length_drop, List.length_take]; rfl)) ?_; (with_reducible refine (scale_Known.calls k _ _ l0 true _ ?side1 ?side2 A3.out).mono ?_); (case side1 => repeat (first | exact HR0.out | (with_reducible refine Kd.C_alloc ?_ _) | (with_reducible refine Kd.C_drewN ?_ _) | (with_reducible refine Kd.C_drew ?_))); (case side2 => exact HC0.out); rintro e w6 ⟨rfl, hb⟩; refine ⟨_, rfl, ?_⟩; have n0_ := Aside0.mk (below_step (by repeat (first | (with_reducible first | exact HB.out | apply below_alloc | apply pw_below_drewN | apply below_drew1) | exact HB.out)) hb); clear HB; have HB := n0_; clear n0_; (try clear hb); (try clear hb2); (try clear hk); (try clear hi)))
      go_ret2
      exact ⟨by first | rfl | (simp [errW_none, errW_some] <;> rfl) | (simp [*, errW_none, errW_some] <;> rfl), by repeat (first | (with_reducible first | exact HB.out | apply below_alloc | apply pw_below_drewN | apply below_drew1) | exact HB.out)⟩
    · rw [if_neg c5] at H
      have c5b0 : decide (a1 < 730) = false := decide_eq_false c5
      clear c5
      by_cases c7 : a1 > 2932896
      · rw [if_pos c7] at H
        have c7b0 : decide (2932896 < a1) = true := decide_eq_true c7
        clear c7
        simp only [Option.some.injEq, Prod.mk.injEq] at H
        obtain ⟨rfl, rfl⟩ := H
        go_enter Try.func14, Try.ntmps14
        go_wp2_with (first | ((with_reducible refine gate_callee (f := 18) rfl ?_); refine goesL_ (some 8) rfl rfl Try.func18 (by kernel_rfl) rfl #[.slice A0 l0.length c0] rfl (by (try simp only [List.map_toArray, List.map_cons, List.map_nil]); first | done | rfl | (simp only [List.length_drop, List.length_take]; rfl)) ?_; (with_reducible refine (scale_Known.calls k _ _ l0 true _ ?side1 ?side2 A3.out).mono ?_); (case side1 => repeat (first | exact HR0.out | (with_reducible refine Kd.C_alloc ?_ _) | (with_reducible refine Kd.C_drewN ?_ _) | (with_reducible refine Kd.C_drew ?_))); (case side2 => exact HC0.out); rintro e w8 ⟨rfl, hb⟩; refine ⟨_, rfl, ?_⟩; have n0_ := Aside0.mk (below_step (by repeat (first | (with_reducible first | exact HB.out | apply below_alloc | apply pw_below_drewN | apply below_drew1) | exact HB.out)) hb); clear HB; have HB := n0_; clear n0_; (try clear hb); (try clear hb2); (try clear hk); (try clear hi)))
        go_ret2
        exact ⟨by first | rfl | (simp [errW_none, errW_some] <;> rfl) | (simp [*, errW_none, errW_some] <;> rfl), by repeat (first | (with_reducible first | exact HB.out | apply below_alloc | apply pw_below_drewN | apply below_drew1) | exact HB.out)⟩
      · rw [if_neg c7] at H
        have c7b0 : decide (2932896 < a1) = false := decide_eq_false c7
        clear c7
        replace H := Option.bind_eq_some_iff.mp H
        obtain ⟨t191, A90, H⟩ := H
        replace H : (some (wrap64 (86400 + t191), 0)) = some (r1, r2) := H
        have A9 := Aside0.mk A90
        clear A90
        simp only [Option.some.injEq, Prod.mk.injEq] at H
        obtain ⟨rfl, rfl⟩ := H
        go_enter Try.func14, Try.ntmps14
        go_wp2_with (first | ((with_reducible refine gate_callee (f := 18) rfl ?_); refine goesL_ (some 8) rfl rfl Try.func18 (by kernel_rfl) rfl #[.slice A0 l0.length c0] rfl (by (try simp only [List.map_toArray, List.map_cons, List.map_nil]); first | done | rfl | (simp only [List.length_drop, List.length_take]; rfl)) ?_; (with_reducible refine (scale_Known.calls k _ _ l0 true _ ?side1 ?side2 A3.out).mono ?_); (case side1 => repeat (first | exact HR0.out | (with_reducible refine Kd.C_alloc ?_ _) | (with_reducible refine Kd.C_drewN ?_ _) | (with_reducible refine Kd.C_drew ?_))); (case side2 => exact HC0.out); rintro e w10 ⟨rfl, hb⟩; refine ⟨_, rfl, ?_⟩; have n0_ := Aside0.mk (below_step (by repeat (first | (with_reducible first | exact HB.out | apply below_alloc | apply pw_below_drewN | apply below_drew1) | exact HB.out)) hb); clear HB; have HB := n0_; clear n0_; (try clear hb); (try clear hb2); (try clear hk); (try clear hi)) | ((with_reducible refine gate_callee (f := 35) rfl ?_); refine goesL_ (some 17) rfl rfl Try.func35 (by kernel_rfl) rfl #[.slice A0 l0.length c0, .int .i64 a1] rfl (by (try simp only [List.map_toArray, List.map_cons, List.map_nil]); first | done | rfl | (simp only [List.length_drop, List.length_take]; rfl)) ?_; (with_reducible refine (scale_step.calls k _ _ l0 a1 t191 _ ?side1 ?side2 A9.out).mono ?_); (case side1 => repeat (first | exact (Kd.C_below HR0.out HB.out) | (with_reducible refine Kd.C_alloc ?_ _) | (with_reducible refine Kd.C_drewN ?_ _) | (with_reducible refine Kd.C_drew ?_))); (case side2 => exact HC0.out); rintro e w11 ⟨rfl, hb⟩; refine ⟨_, rfl, ?_⟩; have n0_ := Aside0.mk (below_step (by repeat (first | (with_reducible first | exact HB.out | apply below_alloc | apply pw_below_drewN | apply below_drew1) | exact HB.out)) hb); clear HB; have HB := n0_; clear n0_; (try clear hb); (try clear hb2); (try clear hk); (try clear hi)))
        go_ret2
        exact ⟨by first | rfl | (simp [errW_none, errW_some] <;> rfl) | (simp [*, errW_none, errW_some] <;> rfl), by repeat (first | (with_reducible first | exact HB.out | apply below_alloc | apply pw_below_drewN | apply below_drew1) | exact HB.out)⟩
  · replace c4 := Bool.eq_false_iff.mpr c4
    subst c4
    have H1 : (some (0, 1)) = some (r1, r2) := by rw [if_neg (show ¬ (false = true) by decide)] at H; exact H
    clear H
    have H := H1
    clear H1
    simp only [Option.some.injEq, Prod.mk.injEq] at H
    obtain ⟨rfl, rfl⟩ := H
    go_enter Try.func14, Try.ntmps14
    go_wp2_with (first | ((with_reducible refine gate_callee (f := 18) rfl ?_); refine goesL_ (some 8) rfl rfl Try.func18 (by kernel_rfl) rfl #[.slice A0 l0.length c0] rfl (by (try simp only [List.map_toArray, List.map_cons, List.map_nil]); first | done | rfl | (simp only [List.length_drop, List.length_take]; rfl)) ?_; (with_reducible refine (scale_Known.calls k _ _ l0 false _ ?side1 ?side2 A3.out).mono ?_); (case side1 => repeat (first | exact HR0.out | (with_reducible refine Kd.C_alloc ?_ _) | (with_reducible refine Kd.C_drewN ?_ _) | (with_reducible refine Kd.C_drew ?_))); (case side2 => exact HC0.out); rintro e w12 ⟨rfl, hb⟩; refine ⟨_, rfl, ?_⟩; have n0_ := Aside0.mk (below_step (by repeat (first | (with_reducible first | exact HB.out | apply below_alloc | apply pw_below_drewN | apply below_drew1) | exact HB.out)) hb); clear HB; have HB := n0_; clear n0_; (try clear hb); (try clear hb2); (try clear hk); (try clear hi)))
    go_ret2
    exact ⟨by first | rfl | (simp [errW_none, errW_some] <;> rfl) | (simp [*, errW_none, errW_some] <;> rfl), by repeat (first | (with_reducible first | exact HB.out | apply below_alloc | apply pw_below_drewN | apply below_drew1) | exact HB.out)⟩

end Go.Proofs.Ythecldgopjaogaa.PAll
