-- Written for this claim by wip/tools of this repo (after the kit's print; own contracts laid in).
import Derived.Test.YthoigncoojcanaaPAllx0
import Derived.Test.YthoigncoojcanaaShort
import Derived.Test.YthoigncoojcanaaPAllx4
namespace Go.Proofs.Ythoigncoojcanaa.PAll
open Go.RowKit Go.Proofs.YthoigncoojcanaaW.PrintWords Go.Proofs.YthoigncoojcanaaW.PrintLast Go.Proofs.YthoigncoojcanaaW.PrintMore
attribute [local go_sem] max2_int min2_int max_two min_two max_three min_three max_four min_four   -- for this text's walks alone
set_option linter.unusedVariables false
set_option linter.unusedSimpArgs false

/-! ### smear_find: function 30 -/
-- by hand: wip/hand
/-- has a window a second: by the closure of Window or Smear (TAI), or of Unsmear (POSIX) -/
def smear_find.p (a : Nat × Int) (x : S56) : Bool := if a.1 = 44 then decide (a.2 ≥ x.f1) && decide (a.2 < wrap64 (x.f1 + 86400)) else decide (a.2 ≥ x.f0) && decide (a.2 < wrap64 (x.f0 + x.f2))
def smear_find.out (o : Option S56) : Int × Int × Int × Bool := match o with
 | some x => (x.f0, x.f1, x.f2, true)
 | none => (0, 0, 0, false)
def smear_find.f (k : Nat) (l0 : List (S53)) (a1 : Nat × Int) : Option (Int × Int × Int × Bool) := (smear_windows.f k l0).bind fun all =>
 if all.length < 4611686018427387904 ∧ (a1.1 = 31 ∨ a1.1 = 37 ∨ a1.1 = 44) then some (smear_find.out (all.find? (smear_find.p a1))) else none
theorem smear_find.mono : ∀ a0 a1 k, LeO (smear_find.f k a0 a1) (smear_find.f (k + 1) a0 a1) := by
 intro a0 a1 k
 unfold smear_find.f
 exact LeO.bind (smear_windows.mono _ _) (fun _ => LeO.refl _)
theorem smear_find.within (t a b : Int) (w W : World) (hb : Below w.heap.size w W) :
  Calls Try.prog 32 #[.int .i64 t, .int .i64 a, .int .i64 b] W fun e w' => e = .returned (.bool (decide (t ≥ a) && decide (t < wrap64 (a + b)))) ∧ Below w.heap.size w w' := by
 by_cases h1 : t ≥ a
 ·have h1b : decide (a ≤ t) = true := decide_eq_true h1
  generalize hq : decide (t < wrap64 (a + b)) = q
  go_enter Try.func32, Try.ntmps32
  go_wp2
  all_goals go_ret
  all_goals exact ⟨by first | rfl | (simp [h1, ← hq]; done) | (simp [*]; done), by first | exact hb | repeat (first | exact hb | apply below_alloc | apply below_drew1 | apply pw_below_drewN)⟩
 ·have h1b : decide (a ≤ t) = false := decide_eq_false h1
  go_enter Try.func32, Try.ntmps32
  go_wp2
  all_goals go_ret
  all_goals exact ⟨by first | rfl | (simp [h1]; done) | (simp [*]; done), by first | exact hb | repeat (first | exact hb | apply below_alloc | apply below_drew1 | apply pw_below_drewN)⟩
/-- the closure of Window -/
theorem smear_find.cloWindow (x : S56) (t : Int) (g : Nat) (w W : World) (hb : Below w.heap.size w W) (hc : W.cell? ⟨g, 0, none⟩ = some (.int .i64 t)) :
  Calls Try.prog 31 (#[.agg #[.int .i64 x.f0, .int .i64 x.f1, .int .i64 x.f2]] ++ #[.pointer (some ⟨g, 0, none⟩)]) W fun e w' => e = .returned (.bool (smear_find.p (31, t) x)) ∧ Below w.heap.size w w' := by
 have hu := Try.underlying56
 have hk := Try.underlying24
 have hlt := World.block_lt_of_cell? W _ hc
 have HW := smear_find.within t x.f0 x.f2 w
 have HC := Aside0.mk hc
 have HL := Aside0.mk hlt
 have HB := Aside0.mk hb
 clear hb hc hlt
 go_enter Try.func31, Try.ntmps31
 go_wp2_with (first | (refine bx 2 #[.int .i64 x.f0, .int .i64 x.f1, .int .i64 x.f2] 56 ?_; intro gb hg w9 hbox hb; have hcz0 : w9.cell? ⟨gb, 0, none⟩ = some (.int .i64 x.f0) := (blk_cell hbox 0).trans rfl; have hcz1 : w9.cell? ⟨gb, 1, none⟩ = some (.int .i64 x.f1) := (blk_cell hbox 1).trans rfl; have hcz2 : w9.cell? ⟨gb, 2, none⟩ = some (.int .i64 x.f2) := (blk_cell hbox 2).trans rfl; have hct : w9.cell? ⟨g, 0, none⟩ = some (.int .i64 t) := pw_cell_below hb HC.out; have HB2 := Aside0.mk (below_step HB.out hb); clear hb hbox hg) | (go_at_call 32; refine (HW _ HB2.out).mono ?_; rintro e w2 ⟨rfl, hb2⟩))
 go_ret
 exact ⟨by unfold smear_find.p; first | rfl | simp, hb2⟩
/-- the closure of Smear -/
theorem smear_find.cloSmear (x : S56) (t : Int) (g : Nat) (w W : World) (hb : Below w.heap.size w W) (hc : W.cell? ⟨g, 0, none⟩ = some (.int .i64 t)) :
  Calls Try.prog 37 (#[.agg #[.int .i64 x.f0, .int .i64 x.f1, .int .i64 x.f2]] ++ #[.pointer (some ⟨g, 0, none⟩)]) W fun e w' => e = .returned (.bool (smear_find.p (37, t) x)) ∧ Below w.heap.size w w' := by
 have hu := Try.underlying56
 have hk := Try.underlying24
 have hlt := World.block_lt_of_cell? W _ hc
 have HW := smear_find.within t x.f0 x.f2 w
 have HC := Aside0.mk hc
 have HL := Aside0.mk hlt
 have HB := Aside0.mk hb
 clear hb hc hlt
 go_enter Try.func37, Try.ntmps37
 go_wp2_with (first | (refine bx 2 #[.int .i64 x.f0, .int .i64 x.f1, .int .i64 x.f2] 56 ?_; intro gb hg w9 hbox hb; have hcz0 : w9.cell? ⟨gb, 0, none⟩ = some (.int .i64 x.f0) := (blk_cell hbox 0).trans rfl; have hcz1 : w9.cell? ⟨gb, 1, none⟩ = some (.int .i64 x.f1) := (blk_cell hbox 1).trans rfl; have hcz2 : w9.cell? ⟨gb, 2, none⟩ = some (.int .i64 x.f2) := (blk_cell hbox 2).trans rfl; have hct : w9.cell? ⟨g, 0, none⟩ = some (.int .i64 t) := pw_cell_below hb HC.out; have HB2 := Aside0.mk (below_step HB.out hb); clear hb hbox hg) | (go_at_call 32; refine (HW _ HB2.out).mono ?_; rintro e w2 ⟨rfl, hb2⟩))
 go_ret
 exact ⟨by unfold smear_find.p; first | rfl | simp, hb2⟩
/-- the closure of Unsmear -/
theorem smear_find.cloUnsmear (x : S56) (t : Int) (g : Nat) (w W : World) (hb : Below w.heap.size w W) (hc : W.cell? ⟨g, 0, none⟩ = some (.int .i64 t)) :
  Calls Try.prog 44 (#[.agg #[.int .i64 x.f0, .int .i64 x.f1, .int .i64 x.f2]] ++ #[.pointer (some ⟨g, 0, none⟩)]) W fun e w' => e = .returned (.bool (smear_find.p (44, t) x)) ∧ Below w.heap.size w w' := by
 have hu := Try.underlying56
 have hk := Try.underlying24
 have hlt := World.block_lt_of_cell? W _ hc
 have HW := smear_find.within t x.f1 86400 w
 have HC := Aside0.mk hc
 have HL := Aside0.mk hlt
 have HB := Aside0.mk hb
 clear hb hc hlt
 go_enter Try.func44, Try.ntmps44
 go_wp2_with (first | (refine bx 2 #[.int .i64 x.f0, .int .i64 x.f1, .int .i64 x.f2] 56 ?_; intro gb hg w9 hbox hb; have hcz0 : w9.cell? ⟨gb, 0, none⟩ = some (.int .i64 x.f0) := (blk_cell hbox 0).trans rfl; have hcz1 : w9.cell? ⟨gb, 1, none⟩ = some (.int .i64 x.f1) := (blk_cell hbox 1).trans rfl; have hcz2 : w9.cell? ⟨gb, 2, none⟩ = some (.int .i64 x.f2) := (blk_cell hbox 2).trans rfl; have hct : w9.cell? ⟨g, 0, none⟩ = some (.int .i64 t) := pw_cell_below hb HC.out; have HB2 := Aside0.mk (below_step HB.out hb); clear hb hbox hg) | (go_at_call 32; refine (HW _ HB2.out).mono ?_; rintro e w2 ⟨rfl, hb2⟩))
 go_ret
 exact ⟨by unfold smear_find.p; first | rfl | simp, hb2⟩
set_option maxHeartbeats 4000000 in
theorem smear_find.idx (F : Nat) (eg : ∀ args w, (callFunc F args).run Try.prog w = .ok (.enter F args) w) (pp : S56 → Bool) (g : Nat) (A : Option Addr) (l : List S56) (c : Nat) (w : World) (hC : Kd.C k56 w A l.length l) (hbig : l.length < 4611686018427387904)
  (hclo : ∀ (x : S56) (W : World), Below w.heap.size w W → Calls Try.prog F (#[.agg #[.int .i64 x.f0, .int .i64 x.f1, .int .i64 x.f2]] ++ #[.pointer (some ⟨g, 0, none⟩)]) W fun e w' => e = .returned (.bool (pp x)) ∧ Below w.heap.size w w') :
  Calls Try.prog 69 #[.slice A l.length c, .func (.func F) #[] #[.pointer (some ⟨g, 0, none⟩)]] w fun e w' => ∃ r : Int, e = .returned (.int .i64 r) ∧ (r = -1 ∧ l.find? pp = none ∨ ∃ i : Nat, r = i ∧ i < l.length ∧ l.find? pp = some (rd_T56 l (i : Int))) ∧ Below w.heap.size w w' := by
 have HCL : Aside (∀ (x : S56) (W : World), Below w.heap.size w W → Calls Try.prog F (#[.agg #[.int .i64 x.f0, .int .i64 x.f1, .int .i64 x.f2]] ++ #[.pointer (some ⟨g, 0, none⟩)]) W fun e w' => e = .returned (.bool (pp x)) ∧ Below w.heap.size w w') := hclo
 have HC := Aside0.mk hC
 clear hC hclo
 have HBIG := Aside0.mk hbig
 clear hbig
 have hu := Try.underlying56
 go_enter Try.func69, Try.ntmps69
 go_wp2
 go_loopg [5, 8] l.length (fun gg _ s8 wr => ∃ kk : Nat, kk ≤ l.length ∧ l.length - kk ≤ gg ∧ s8 = .int .i64 kk ∧ Aside (Below w.heap.size w wr) ∧ Aside (∀ y ∈ l.take kk, pp y = false))
 case atStart => exact ⟨0, Nat.zero_le _, by omega, rfl, Below.refl _ w, fun y hy => absurd hy (by simp)⟩
 case round =>
  obtain ⟨kk, hkk, hg, rfl, BW, A0⟩ := hrel
  by_cases hlt : kk < l.length
  ·have hltz : (kk : Int) < (l.length : Int) := by omega
   obtain ⟨ad, e0, hx0, hx1, hx2⟩ := at_T56 (Kd.C_below HC.out BW.out) (kk : Int) (by omega) (by omega)
   cases e0
   simp only [Int.toNat_natCast] at hx0 hx1 hx2
   have hcall := HCL.out (rd_T56 l (kk : Int)) wr BW.out
   have hy : (rd_T56 l (kk : Int)) = l[kk] := by simp [rd_T56, hlt]
   have HY := Aside0.mk hy
   clear hy
   generalize hgy : rd_T56 l (kk : Int) = y at hx0 hx1 hx2 hcall HY
   have HGY := Aside0.mk hgy
   clear hgy
   cases hq : pp y with
   | true =>
    rw [hq] at hcall
    go_wp2_with (go_at_fn F; refine hcall.mono ?_; rintro e w' ⟨rfl, hb'⟩)
    go_ret
    refine ⟨_, rfl, .inr ⟨kk, rfl, hlt, ?_⟩, hb'⟩
    rw [HGY.out, List.find?_eq_some_iff_getElem]
    refine ⟨hq, kk, hlt, HY.out.symm, fun j hj => ?_⟩
    have := A0.out l[j] (List.mem_take_iff_getElem.mpr ⟨j, by omega, rfl⟩)
    simp [this]
   | false =>
    rw [hq] at hcall
    go_wp2_with (go_at_fn F; refine hcall.mono ?_; rintro e w' ⟨rfl, hb'⟩)
    go_roundg (l.length - (kk + 1))
    case measure => omega
    case rel =>
     refine ⟨kk + 1, by omega, by omega, by (have := HBIG.out; refine congrArg (Value.int .i64) ?_; unfold wrap64; omega), hb', (show Aside _ from fun z hz => ?_)⟩
     rw [List.take_succ_eq_append_getElem hlt, List.mem_append, List.mem_singleton] at hz
     rcases hz with hz | hz
     ·exact A0.out z hz
     ·rw [hz, ← HY.out]; exact hq
  ·have hltz : ¬ (kk : Int) < (l.length : Int) := by omega
   have : kk = l.length := by omega
   subst this
   go_wp2
   go_ret
   refine ⟨_, rfl, .inl ⟨rfl, ?_⟩, BW.out⟩
   have := A0.out
   rw [List.take_length] at this
   first | exact this | exact List.find?_eq_none.mpr (fun z hz => by rw [this z hz]; simp)
set_option maxHeartbeats 8000000 in
set_option maxRecDepth 100000 in
theorem smear_find.walk (k : Nat) (A0 : Option Addr) (c0 : Nat) (l0 : List (S53)) (F : Nat) (t : Int) (g : Nat) (all : List S56) (w : World) (hr0 : Kd.C k53 w A0 l0.length l0) (hc0 : l0.length ≤ c0) (ha : smear_windows.f k l0 = some all) (hlen : all.length < 4611686018427387904)
  (eg : ∀ args w, (callFunc F args).run Try.prog w = .ok (.enter F args) w)
  (hclo : ∀ (x : S56) (w2 W : World), Below w.heap.size w w2 → Below w2.heap.size w2 W → Calls Try.prog F (#[.agg #[.int .i64 x.f0, .int .i64 x.f1, .int .i64 x.f2]] ++ #[.pointer (some ⟨g, 0, none⟩)]) W fun e w' => e = .returned (.bool (smear_find.p (F, t) x)) ∧ Below w2.heap.size w2 w') :
  Calls Try.prog 30 #[.slice A0 l0.length c0, .func (.func F) #[] #[.pointer (some ⟨g, 0, none⟩)]] w fun e w' => e = .returned (.tuple #[.agg #[.int .i64 (smear_find.out (all.find? (smear_find.p (F, t)))).1, .int .i64 (smear_find.out (all.find? (smear_find.p (F, t)))).2.1, .int .i64 (smear_find.out (all.find? (smear_find.p (F, t)))).2.2.1], .bool (smear_find.out (all.find? (smear_find.p (F, t)))).2.2.2]) ∧ Below w.heap.size w w' := by
 have hu := Try.underlying56
 have HR0 := Aside0.mk hr0
 have HC0 := Aside0.mk hc0
 have HA := Aside0.mk ha
 have HLEN := Aside0.mk hlen
 have EG := Aside0.mk eg
 have HCLO := Aside0.mk hclo
 clear hr0 hc0 ha hlen eg hclo
 cases hf : all.find? (smear_find.p (F, t)) with
 | none =>
  have HF := Aside0.mk hf
  clear hf
  simp only [smear_find.out]
  go_enter Try.func30, Try.ntmps30
  go_wp2_with (first | (refine bx 4 #[.int .i64 0, .int .i64 0, .int .i64 0] 56 ?_; intro gb hg w1 hbox hb; have BK := Aside0.mk hbox; have HB1 := Aside0.mk hb; have GE := Aside0.mk ((by rw [hg]; exact Nat.le_refl _) : w.heap.size ≤ gb); clear hbox hb hg) | (go_at_call 68; refine (smear_windows.calls k _ _ l0 all _ (Kd.C_below HR0.out HB1.out) HC0.out HA.out).mono ?_; rintro e w2 ⟨v, rfl, ho0, hb⟩; have HO := Aside0.mk ho0; have BK2 := Aside0.mk (blk_below BK.out hb); have HB2 := Aside0.mk (below_step HB1.out hb); clear ho0 hb; obtain ⟨Ao, co, eo⟩ := Kd.R_slice HO.out; subst eo) | (go_at_call 69; refine (smear_find.idx F EG.out (smear_find.p (F, t)) g Ao all co w2 (Kd.R_reads' HO.out).2.2 HLEN.out (fun x W hW => HCLO.out x w2 W HB2.out hW)).mono ?_; rintro e w3 ⟨r, rfl, hr, hb3⟩; have HR3 := Aside0.mk (Kd.R_below HO.out hb3); have BK3 := Aside0.mk (blk_below BK2.out hb3); have HB3 := Aside0.mk (below_step HB2.out hb3); clear hb3; obtain rfl : r = -1 := (by rcases hr with ⟨h, _⟩ | ⟨i, _, _, h⟩; exact h; rw [HF.out] at h; exact absurd h (by simp)); clear hr; have hcz0 : w3.cell? ⟨gb, 0, none⟩ = some (.int .i64 0) := (blk_cell BK3.out 0).trans rfl; have hcz1 : w3.cell? ⟨gb, 1, none⟩ = some (.int .i64 0) := (blk_cell BK3.out 1).trans rfl; have hcz2 : w3.cell? ⟨gb, 2, none⟩ = some (.int .i64 0) := (blk_cell BK3.out 2).trans rfl; have hfz0 := blk_frozen BK3.out 0; have hfz1 := blk_frozen BK3.out 1; have hfz2 := blk_frozen BK3.out 2))
  refine bodyPost_ret (results_ct rfl _ _ gb 56 #[.int .i64 0, .int .i64 0, .int .i64 0] (0, 0) _ rfl (by (with_reducible repeat (first | refine blk_drewN ?_ _ | refine blk_drew ?_ | refine blk_alloc ?_ _)); refine blk_put (cs := #[.int .i64 0, .int .i64 0, .int .i64 0]) ?_ 2 _ rfl; (with_reducible repeat (first | refine blk_drewN ?_ _ | refine blk_drew ?_ | refine blk_alloc ?_ _)); refine blk_put (cs := #[.int .i64 0, .int .i64 0, .int .i64 0]) ?_ 1 _ rfl; (with_reducible repeat (first | refine blk_drewN ?_ _ | refine blk_drew ?_ | refine blk_alloc ?_ _)); refine blk_put (cs := #[.int .i64 0, .int .i64 0, .int .i64 0]) ?_ 0 _ rfl; (with_reducible repeat (first | refine blk_drewN ?_ _ | refine blk_drew ?_ | refine blk_alloc ?_ _)); exact BK3.out) Try.underlying56 rfl (by kernel_rfl)) rfl ?_
  exact ⟨by first | rfl | simp, by repeat (first | (with_reducible first | exact HB3.out | apply below_alloc | apply pw_below_drewN | apply below_drew1 | refine below_set ?_ GE.out) | exact HB3.out)⟩
 | some x =>
  have HF := Aside0.mk hf
  clear hf
  simp only [smear_find.out]
  go_enter Try.func30, Try.ntmps30
  go_wp2_with (first | (refine bx 4 #[.int .i64 0, .int .i64 0, .int .i64 0] 56 ?_; intro gb hg w1 hbox hb; have BK := Aside0.mk hbox; have HB1 := Aside0.mk hb; have GE := Aside0.mk ((by rw [hg]; exact Nat.le_refl _) : w.heap.size ≤ gb); clear hbox hb hg) | (go_at_call 68; refine (smear_windows.calls k _ _ l0 all _ (Kd.C_below HR0.out HB1.out) HC0.out HA.out).mono ?_; rintro e w2 ⟨v, rfl, ho0, hb⟩; have HO := Aside0.mk ho0; have BK2 := Aside0.mk (blk_below BK.out hb); have HB2 := Aside0.mk (below_step HB1.out hb); clear ho0 hb; obtain ⟨Ao, co, eo⟩ := Kd.R_slice HO.out; subst eo) | (go_at_call 69; refine (smear_find.idx F EG.out (smear_find.p (F, t)) g Ao all co w2 (Kd.R_reads' HO.out).2.2 HLEN.out (fun x W hW => HCLO.out x w2 W HB2.out hW)).mono ?_; rintro e w3 ⟨r, rfl, hr, hb3⟩; have HR3 := Aside0.mk (Kd.R_below HO.out hb3); have BK3 := Aside0.mk (blk_below BK2.out hb3); have HB3 := Aside0.mk (below_step HB2.out hb3); clear hb3; obtain ⟨i, hri, hi, hx⟩ : ∃ i : Nat, r = i ∧ i < all.length ∧ rd_T56 all (i : Int) = x := (by rcases hr with ⟨_, h⟩ | ⟨i, h1, h2, h⟩; rw [HF.out] at h; exact absurd h (by simp); rw [HF.out] at h; exact ⟨i, h1, h2, (Option.some.inj h).symm⟩); subst hri; clear hr; obtain ⟨ad, e0, hx0, hx1, hx2⟩ := at_T56 (Kd.R_reads' HR3.out).2.2 (i : Int) (by omega) (by omega); cases e0; simp only [Int.toNat_natCast] at hx0 hx1 hx2; rw [hx] at hx0 hx1 hx2; clear hx; have hiz : (i : Int) < (all.length : Int) := (by omega); have hi0 : (0 : Int) ≤ (i : Int) := (by omega); have hcz0 : w3.cell? ⟨gb, 0, none⟩ = some (.int .i64 0) := (blk_cell BK3.out 0).trans rfl; have hcz1 : w3.cell? ⟨gb, 1, none⟩ = some (.int .i64 0) := (blk_cell BK3.out 1).trans rfl; have hcz2 : w3.cell? ⟨gb, 2, none⟩ = some (.int .i64 0) := (blk_cell BK3.out 2).trans rfl; have hfz0 := blk_frozen BK3.out 0; have hfz1 := blk_frozen BK3.out 1; have hfz2 := blk_frozen BK3.out 2))
  refine bodyPost_ret (results_ct rfl _ _ gb 56 #[.int .i64 x.f0, .int .i64 x.f1, .int .i64 x.f2] (0, 0) _ rfl (by (with_reducible repeat (first | refine blk_drewN ?_ _ | refine blk_drew ?_ | refine blk_alloc ?_ _)); refine blk_put (cs := #[.int .i64 x.f0, .int .i64 x.f1, .int .i64 0]) ?_ 2 _ rfl; (with_reducible repeat (first | refine blk_drewN ?_ _ | refine blk_drew ?_ | refine blk_alloc ?_ _)); refine blk_put (cs := #[.int .i64 x.f0, .int .i64 0, .int .i64 0]) ?_ 1 _ rfl; (with_reducible repeat (first | refine blk_drewN ?_ _ | refine blk_drew ?_ | refine blk_alloc ?_ _)); refine blk_put (cs := #[.int .i64 0, .int .i64 0, .int .i64 0]) ?_ 0 _ rfl; (with_reducible repeat (first | refine blk_drewN ?_ _ | refine blk_drew ?_ | refine blk_alloc ?_ _)); exact BK3.out) Try.underlying56 rfl (by kernel_rfl)) rfl ?_
  exact ⟨by first | rfl | simp, by repeat (first | (with_reducible first | exact HB3.out | apply below_alloc | apply pw_below_drewN | apply below_drew1 | refine below_set ?_ GE.out) | exact HB3.out)⟩
theorem smear_find.calls (k : Nat) (A0 : Option Addr) (c0 : Nat) (l0 : List (S53)) (a1 : Nat × Int) (r1 r2 r3 : Int) (r4 : Bool) (w : World) (hr0 : Kd.C k53 w A0 l0.length l0) (hc0 : l0.length ≤ c0) (h : smear_find.f k l0 a1 = some (r1, r2, r3, r4)) {g : Nat} (hV : w.cell? ⟨g, 0, none⟩ = some (.int .i64 a1.2) := by first | assumption | (go_simp; done)) :
  Calls Try.prog 30 #[.slice A0 l0.length c0, .func (.func a1.1) #[] #[.pointer (some ⟨g, 0, none⟩)]] w fun e w' => e = .returned (.tuple #[.agg #[.int .i64 r1, .int .i64 r2, .int .i64 r3], .bool r4]) ∧ Below w.heap.size w w' := by
 unfold smear_find.f at h
 obtain ⟨all, ha, h⟩ := Option.bind_eq_some_iff.mp h
 by_cases hs : all.length < 4611686018427387904 ∧ (a1.1 = 31 ∨ a1.1 = 37 ∨ a1.1 = 44)
 case neg => rw [if_neg hs] at h; exact absurd h (by simp)
 rw [if_pos hs] at h
 obtain ⟨F, t⟩ := a1
 simp only at hs hV h ⊢
 obtain ⟨hlen, hF⟩ := hs
 have E := Option.some.inj h
 have e1 : r1 = (smear_find.out (all.find? (smear_find.p (F, t)))).1 := by rw [E]
 have e2 : r2 = (smear_find.out (all.find? (smear_find.p (F, t)))).2.1 := by rw [E]
 have e3 : r3 = (smear_find.out (all.find? (smear_find.p (F, t)))).2.2.1 := by rw [E]
 have e4 : r4 = (smear_find.out (all.find? (smear_find.p (F, t)))).2.2.2 := by rw [E]
 rw [e1, e2, e3, e4]
 rcases hF with rfl | rfl | rfl
 ·exact smear_find.walk k A0 c0 l0 31 t g all w hr0 hc0 ha hlen (enters_of Try.func31 (by kernel_rfl) rfl) (fun x w2 W h1 h2 => smear_find.cloWindow x t g w2 W h2 (pw_cell_below h2 (pw_cell_below h1 hV)))
 ·exact smear_find.walk k A0 c0 l0 37 t g all w hr0 hc0 ha hlen (enters_of Try.func37 (by kernel_rfl) rfl) (fun x w2 W h1 h2 => smear_find.cloSmear x t g w2 W h2 (pw_cell_below h2 (pw_cell_below h1 hV)))
 ·exact smear_find.walk k A0 c0 l0 44 t g all w hr0 hc0 ha hlen (enters_of Try.func44 (by kernel_rfl) rfl) (fun x w2 W h1 h2 => smear_find.cloUnsmear x t g w2 W h2 (pw_cell_below h2 (pw_cell_below h1 hV)))

/-! ### smear_Window: function 11 -/
-- by hand: wip/hand
def smear_Window.f (k : Nat) (l0 : List (S53)) (a1 : Int) : Option (Int × Int × Bool) := (scale_Known.f k l0).bind fun t => if t = true then (smear_find.f k l0 (31, a1)).bind fun b => some (b.1, b.2.2.1, b.2.2.2) else some (0, 0, false)
theorem smear_Window.mono : ∀ a0 a1 k, LeO (smear_Window.f k a0 a1) (smear_Window.f (k + 1) a0 a1) := by
 intro a0 a1 k
 unfold smear_Window.f
 refine LeO.bind (scale_Known.mono _ _) (fun _ => LeO.ite (LeO.bind (smear_find.mono _ _ _) (fun _ => LeO.refl _)) (LeO.refl _))
set_option maxHeartbeats 8000000 in
set_option maxRecDepth 100000 in
theorem smear_Window.calls (k : Nat) (A0 : Option Addr) (c0 : Nat) (l0 : List (S53)) (a1 : Int) (r1 : Int) (r2 : Int) (r3 : Bool) (w : World) (hr0 : Kd.C k53 w A0 l0.length l0) (hc0 : l0.length ≤ c0) (h : smear_Window.f k l0 a1 = some (r1, r2, r3)) :
  Calls Try.prog 11 #[.slice A0 l0.length c0, .int .i64 a1] w fun e w' => e = .returned (.tuple #[.int .i64 r1, .int .i64 r2, .bool r3]) ∧ Below w.heap.size w w' := by
 have hu := Try.underlying56
 obtain ⟨W1, hW1⟩ : ∃ W1, W1 = w.alloc (.cells #[.int .i64 a1] 3) := ⟨_, rfl⟩
 have HB1 : Aside0 (Below w.heap.size w W1) := ⟨by rw [hW1]; exact (Below.refl _ w).alloc (Nat.le_refl _) _⟩
 have HT1 : Aside0 (W1.cell? ⟨w.heap.size, 0, none⟩ = some (.int .i64 a1)) := ⟨by
  have b : W1.heap[w.heap.size]? = some (.cells #[.int .i64 a1] 3 (0, 0)) := by rw [hW1]; exact blk_new _ _
  exact (blk_cell b 0).trans rfl⟩
 have HW := Aside0.mk hW1
 have HR0 := Aside0.mk hr0
 have HC0 := Aside0.mk hc0
 clear hr0 hc0 hW1
 unfold smear_Window.f at h
 obtain ⟨tk, hk, h⟩ := Option.bind_eq_some_iff.mp h
 have HK := Aside0.mk hk
 clear hk
 cases tk with
 | false =>
  rw [if_neg (by simp)] at h
  have E := Option.some.inj h
  simp only [Prod.mk.injEq] at E
  obtain ⟨rfl, rfl, rfl⟩ := E
  clear h
  go_enter Try.func11, Try.ntmps11
  go_wp2_with (go_at_call 29; rw [← HW.out]; refine (scale_Known.calls k _ _ l0 false _ (Kd.C_below HR0.out HB1.out) HC0.out HK.out).mono ?_; rintro e w2 ⟨rfl, hb⟩; have HB2 := Aside0.mk (below_step HB1.out hb); clear hb)
  go_ret3
  exact ⟨rfl, HB2.out⟩
 | true =>
  rw [if_pos rfl] at h
  obtain ⟨⟨f1, f2, f3, f4⟩, hf, h⟩ := Option.bind_eq_some_iff.mp h
  have E := Option.some.inj h
  simp only [Prod.mk.injEq] at E
  obtain ⟨rfl, rfl, rfl⟩ := E
  have HF := Aside0.mk hf
  clear h hf
  go_enter Try.func11, Try.ntmps11
  go_wp2_with (first | (go_at_call 29; rw [← HW.out]; refine (scale_Known.calls k _ _ l0 true _ (Kd.C_below HR0.out HB1.out) HC0.out HK.out).mono ?_; rintro e w2 ⟨rfl, hb⟩; have HB2 := Aside0.mk (below_step HB1.out hb); have HT2 := Aside0.mk (pw_cell_below hb HT1.out); clear hb) | ((with_reducible refine gate_callee (f := 30) rfl ?_); refine goesL_ (some 14) rfl rfl Try.func30 (by kernel_rfl) rfl #[.slice A0 l0.length c0, .func (.func 31) #[] #[.pointer (some ⟨w.heap.size, 0, none⟩)]] rfl (by (try simp only [List.map_toArray, List.map_cons, List.map_nil]); first | done | rfl) ?_; refine (smear_find.calls k _ _ l0 (31, a1) f1 f2 f3 f4 _ (Kd.C_below HR0.out HB2.out) HC0.out HF.out HT2.out).mono ?_; rintro e w3 ⟨rfl, hb⟩; refine ⟨_, rfl, ?_⟩; have HB3 := Aside0.mk (below_step HB2.out hb); clear hb) | (refine bx 7 #[.int .i64 0, .int .i64 0, .int .i64 0] 56 ?_; intro gb hg w4 hbox hb; have BK := Aside0.mk hbox; have HB4 := Aside0.mk (below_step HB3.out hb); have GE := Aside0.mk ((by rw [hg]; exact below_size HB3.out) : w.heap.size ≤ gb); have hcz0 : w4.cell? ⟨gb, 0, none⟩ = some (.int .i64 0) := (blk_cell hbox 0).trans rfl; have hcz1 : w4.cell? ⟨gb, 1, none⟩ = some (.int .i64 0) := (blk_cell hbox 1).trans rfl; have hcz2 : w4.cell? ⟨gb, 2, none⟩ = some (.int .i64 0) := (blk_cell hbox 2).trans rfl; have hfz0 := blk_frozen hbox 0; have hfz1 := blk_frozen hbox 1; have hfz2 := blk_frozen hbox 2; clear hbox hb hg))
  go_region
  all_goals go_wp2
  all_goals go_ret3
  all_goals exact ⟨by first | rfl | simp, by repeat (first | (with_reducible first | exact HB4.out | apply below_alloc | apply pw_below_drewN | apply below_drew1 | refine below_set ?_ GE.out) | exact HB4.out)⟩

/-! ### num_Add: function 53 -/
def num_Add.f (a0 : Int) (a1 : Int) : Option (Int × Bool) := if ((decide ((wrap64 (a0 + a1)) > a0)) != (decide (a1 > 0))) = true then (if a1 = 0 then (some (wrap64 (a0 + a1), true)) else (some (0, false))) else (some (wrap64 (a0 + a1), true))
set_option maxHeartbeats 8000000 in
set_option maxRecDepth 100000 in
theorem num_Add.calls (a0 : Int) (a1 : Int) (r1 : Int) (r2 : Bool) (w : World) (h : num_Add.f a0 a1 = some (r1, r2)) :
  Calls Try.prog 53 #[.int .i64 a0, .int .i64 a1] w fun e w' => e = .returned (.tuple #[.int .i64 r1, .bool r2]) ∧ Drawn0 w w' := by
 have H : (if ((decide ((wrap64 (a0 + a1)) > a0)) != (decide (a1 > 0))) = true then (if a1 = 0 then (some (wrap64 (a0 + a1), true)) else (some (0, false))) else (some (wrap64 (a0 + a1), true))) = some (r1, r2) := h
 clear h
 by_cases c3 : ((decide ((wrap64 (a0 + a1)) > a0)) != (decide (a1 > 0))) = true
 ·rw [if_pos c3] at H
  have c3b0 : ((decide ((wrap64 (a0 + a1)) > a0)) != (decide (a1 > 0))) = true := c3
  (try (have c3b1 : decide ((decide ((wrap64 (a0 + a1)) > a0)) = (decide (a1 > 0))) = false := by first | (simp; done) | (simp at c3; done) | simpa using c3))
  (try (have c3b2 : ((decide ((wrap64 (a0 + a1)) > a0)) == (decide (a1 > 0))) = false := by first | (simp; done) | (simp at c3; done) | simpa using c3))
  (try (have c3b3 : ¬ ((decide ((wrap64 (a0 + a1)) > a0)) = (decide (a1 > 0))) := by first | (simp; done) | (simp at c3; done) | simpa using c3))
  clear c3
  by_cases c4 : a1 = 0
  ·rw [if_pos c4] at H
   have c4b0 : (a1 == 0) = true := beq_iff_eq.mpr c4
   have c4b1 : (a1 != 0) = false := bne_eq_false_iff_eq.mpr c4
   clear c4
   simp only [Option.some.injEq, Prod.mk.injEq] at H
   obtain ⟨rfl, rfl⟩ := H
   go_enter Try.func53, Try.ntmps53
   go_wp2
   go_ret2
   exact fd
  ·rw [if_neg c4] at H
   have c4b0 : (a1 == 0) = false := beq_eq_false_iff_ne.mpr c4
   have c4b1 : (a1 != 0) = true := bne_iff_ne.mpr c4
   simp only [Option.some.injEq, Prod.mk.injEq] at H
   obtain ⟨rfl, rfl⟩ := H
   go_enter Try.func53, Try.ntmps53
   go_wp2
   go_ret2
   exact fd
 ·rw [if_neg c3] at H
  have c3b0 : ((decide ((wrap64 (a0 + a1)) > a0)) != (decide (a1 > 0))) = false := by first | (simp; done) | (simp at c3; done) | simpa using c3
  (try (have c3b1 : decide ((decide ((wrap64 (a0 + a1)) > a0)) = (decide (a1 > 0))) = true := by first | (simp; done) | (simp at c3; done) | simpa using c3))
  (try (have c3b2 : ((decide ((wrap64 (a0 + a1)) > a0)) == (decide (a1 > 0))) = true := by first | (simp; done) | (simp at c3; done) | simpa using c3))
  clear c3
  simp only [Option.some.injEq, Prod.mk.injEq] at H
  obtain ⟨rfl, rfl⟩ := H
  go_enter Try.func53, Try.ntmps53
  go_wp2
  go_ret2
  exact fd

/-! ### record_Expiry: function 83 -/
def record_Expiry.f (k : Nat) (l0 : List (S53)) : Option (Int × Bool) := (record_leaps.f k l0).bind fun t175 => (if (t175.length : Int) < (l0.length : Int) then (if 0 ≤ (t175.length : Int) then (some ((rd_T53 l0 (t175.length : Int)).f0, true)) else (none)) else (some (0, false)))
theorem record_Expiry.mono : ∀ a0 k, LeO (record_Expiry.f k a0) (record_Expiry.f (k + 1) a0) := by
 intro a0 k
 unfold record_Expiry.f
 repeat' first
   | (with_reducible exact record_leaps.mono _ _)
   | (with_reducible exact LeO.refl _)
   | (with_reducible exact LeO.none _)
   | (with_reducible refine LeO.ite ?_ ?_)
   | (with_reducible refine LeO.bind ?_ (fun _ => ?_))
set_option maxHeartbeats 8000000 in
set_option maxRecDepth 100000 in
theorem record_Expiry.calls (k : Nat) (A0 : Option Addr) (c0 : Nat) (l0 : List (S53)) (r1 : Int) (r2 : Bool) (w : World) (hr0 : Kd.C k53 w A0 l0.length l0) (hc0 : l0.length ≤ c0) (h : record_Expiry.f k l0 = some (r1, r2)) :
  Calls Try.prog 83 #[.slice A0 l0.length c0] w fun e w' => e = .returned (.tuple #[.int .i64 r1, .bool r2]) ∧ Below w.heap.size w w' := by
 have HR0 := Aside0.mk hr0
 have HC0 := Aside0.mk hc0
 clear hr0 hc0
 have HB := Aside0.mk (Below.refl w.heap.size w)
 have H : ((record_leaps.f k l0).bind fun t175 => (if (t175.length : Int) < (l0.length : Int) then (if 0 ≤ (t175.length : Int) then (some ((rd_T53 l0 (t175.length : Int)).f0, true)) else (none)) else (some (0, false)))) = some (r1, r2) := h
 clear h
 obtain ⟨t175, A2, H⟩ := bnd H
 try dsimp only at H
 by_cases c3 : (t175.length : Int) < (l0.length : Int)
 ·rw [if_pos c3] at H
  have c3b0 : decide ((t175.length : Int) < (l0.length : Int)) = true := decide_eq_true c3
  have c3b1 : decide (t175.length < l0.length) = true := decide_eq_true (Int.ofNat_lt.mp c3)
  clear c3
  by_cases c4 : 0 ≤ (t175.length : Int)
  ·rw [if_pos c4] at H
   have c4b0 : decide (0 ≤ (t175.length : Int)) = true := decide_eq_true c4
   have c4b1 : decide (0 ≤ t175.length) = true := decide_eq_true (by omega)
   clear c4
   simp only [Option.some.injEq, Prod.mk.injEq] at H
   obtain ⟨rfl, rfl⟩ := H
   go_enter Try.func83, Try.ntmps83
   go_wp2_with (first | (refine gL (some 6) Try.func84 #[.slice A0 l0.length c0] ?_; (with_reducible refine (record_leaps.calls k (fun k_ => k_ < w.heap.size) _ _ l0 t175 _ ?side1 A2.out).mono ?_); (case side1 => exact Kd.V_mk HC0.out (Kd.F_below (Kd.C_F k53_heap HR0.out) (by repeat (first | (with_reducible first | exact HB.out | apply below_alloc | apply pw_below_drewN | apply below_drew1) | exact HB.out)))); rintro e w5 ⟨v176, rfl, ho0, hb⟩; refine ⟨_, rfl, ?_⟩; have n0_ := Aside0.mk (Kd.V_lower (Kd.V_mono (ok' := fun k_ => True) ho0 (fun k_ hk_ => trivial)) (below_size (by repeat (first | (with_reducible first | exact HB.out | apply below_alloc | apply pw_below_drewN | apply below_drew1) | exact HB.out)))); replace HB := bs HB hb; have HO177 := n0_; clear n0_; (try clear hb); (try clear ho0); obtain ⟨Ao6, co6, eo6⟩ := Kd.V_slice HO177.out; subst eo6; have p178 : 0 ≤ ((t175.length : Int) : Int) := pa; have q178 : (t175.length : Int) < (l0.length : Int) := pa; obtain ⟨ad178, e178, hx178_0, hx178_1⟩ := at_T53 HR0.out (t175.length : Int) p178 q178; cases e178; replace hx178_0 := hx HB hx178_0; replace hx178_1 := hx HB hx178_1; (try simp only [Go.IntWalk.toNatUp] at hx178_0); (try simp only [Go.IntWalk.toNatUp] at hx178_1); replace p178 := eq_true p178; replace q178 := eq_true q178))
   go_ret2
   exact fi HB
  ·rw [if_neg c4] at H
   exact absurd H (by simp)
 ·rw [if_neg c3] at H
  have c3b0 : decide ((t175.length : Int) < (l0.length : Int)) = false := decide_eq_false c3
  have c3b1 : decide (t175.length < l0.length) = false := decide_eq_false (fun h => c3 (Int.ofNat_lt.mpr h))
  clear c3
  simp only [Option.some.injEq, Prod.mk.injEq] at H
  obtain ⟨rfl, rfl⟩ := H
  go_enter Try.func83, Try.ntmps83
  go_wp2_with (first | (refine gL (some 6) Try.func84 #[.slice A0 l0.length c0] ?_; (with_reducible refine (record_leaps.calls k (fun k_ => k_ < w.heap.size) _ _ l0 t175 _ ?side1 A2.out).mono ?_); (case side1 => exact Kd.V_mk HC0.out (Kd.F_below (Kd.C_F k53_heap HR0.out) (by repeat (first | (with_reducible first | exact HB.out | apply below_alloc | apply pw_below_drewN | apply below_drew1) | exact HB.out)))); rintro e w7 ⟨v176, rfl, ho0, hb⟩; refine ⟨_, rfl, ?_⟩; have n0_ := Aside0.mk (Kd.V_lower (Kd.V_mono (ok' := fun k_ => True) ho0 (fun k_ hk_ => trivial)) (below_size (by repeat (first | (with_reducible first | exact HB.out | apply below_alloc | apply pw_below_drewN | apply below_drew1) | exact HB.out)))); replace HB := bs HB hb; have HO177 := n0_; clear n0_; (try clear hb); (try clear ho0); obtain ⟨Ao8, co8, eo8⟩ := Kd.V_slice HO177.out; subst eo8))
  go_ret2
  exact fi HB

/-! ### scale_expired: function 54 -/
def scale_expired.f (k : Nat) (l0 : List (S53)) (a1 : Int) : Option (Bool) := (record_Expiry.f k l0).bind fun bt179 => (if bt179.2 = true then (some (decide (a1 ≥ bt179.1))) else (some false))
theorem scale_expired.mono : ∀ a0 a1 k, LeO (scale_expired.f k a0 a1) (scale_expired.f (k + 1) a0 a1) := by
 intro a0 a1 k
 unfold scale_expired.f
 repeat' first
   | (with_reducible exact record_Expiry.mono _ _)
   | (with_reducible exact LeO.refl _)
   | (with_reducible exact LeO.none _)
   | (with_reducible refine LeO.ite ?_ ?_)
   | (with_reducible refine LeO.bind ?_ (fun _ => ?_))
set_option maxHeartbeats 8000000 in
set_option maxRecDepth 100000 in
theorem scale_expired.calls (k : Nat) (A0 : Option Addr) (c0 : Nat) (l0 : List (S53)) (a1 : Int) (r : Bool) (w : World) (hr0 : Kd.C k53 w A0 l0.length l0) (hc0 : l0.length ≤ c0) (h : scale_expired.f k l0 a1 = some r) :
  Calls Try.prog 54 #[.slice A0 l0.length c0, .int .i64 a1] w fun e w' => e = .returned (.bool r) ∧ Below w.heap.size w w' := by
 have HR0 := Aside0.mk hr0
 have HC0 := Aside0.mk hc0
 clear hr0 hc0
 have HB := Aside0.mk (Below.refl w.heap.size w)
 have H : ((record_Expiry.f k l0).bind fun bt179 => (if bt179.2 = true then (some (decide (a1 ≥ bt179.1))) else (some false))) = some r := h
 clear h
 obtain ⟨⟨t179, t180⟩, A3, H⟩ := bnd H
 try dsimp only at H
 by_cases c4 : t180 = true
 ·subst c4
  rw [if_pos rfl] at H
  obtain rfl := Option.some.inj H
  go_enter Try.func54, Try.ntmps54
  go_wp2_with (first | (refine gM (some 9) Try.func83 #[.slice A0 l0.length c0] (record_Expiry.calls k _ _ l0 t179 true _ ?side1 ?side2 A3.out) ?_; (case side1 => exact ca HR0); (case side2 => exact HC0.out); intro w5 hb; replace HB := bs HB hb; (try clear hb)))
  go_ret
  exact fi HB
 ·replace c4 := Bool.eq_false_iff.mpr c4
  subst c4
  rw [if_neg (show ¬ (false = true) by decide)] at H
  obtain rfl := Option.some.inj H
  go_enter Try.func54, Try.ntmps54
  go_wp2_with (first | (refine gM (some 9) Try.func83 #[.slice A0 l0.length c0] (record_Expiry.calls k _ _ l0 t179 false _ ?side1 ?side2 A3.out) ?_; (case side1 => exact ca HR0); (case side2 => exact HC0.out); intro w6 hb; replace HB := bs HB hb; (try clear hb)))
  go_ret
  exact fi HB

-- NOT PRINTED: function 85 (sort_Search)

/-! ### record_Sum: function 56 -/
-- by hand: wip/hand
/-- are records in order? -/
def record_Sum.Asc (l : List S53) : Prop := l.Pairwise (fun x y => x.f0 ≤ y.f0)
instance (l : List S53) : Decidable (record_Sum.Asc l) := by unfold record_Sum.Asc; exact inferInstance
def record_Sum.f (k : Nat) (l0 : List (S53)) (a1 : Int) : Option (Int) := (record_leaps.f k l0).bind fun l =>
 if l.length < 4611686018427387904 ∧ record_Sum.Asc l then some (if l.countP (fun y => !decide (y.f0 > a1)) = 0 then 0 else (l.getD (l.countP (fun y => !decide (y.f0 > a1)) - 1) z53).f1) else none
theorem record_Sum.mono : ∀ a0 a1 k, LeO (record_Sum.f k a0 a1) (record_Sum.f (k + 1) a0 a1) := by
 intro a0 a1 k
 unfold record_Sum.f
 exact LeO.bind (record_leaps.mono _ _) (fun _ => LeO.refl _)
set_option maxHeartbeats 2000000 in
theorem record_Sum.clo (gt gd n c : Nat) (ad : Addr) (a1 x : Int) (i : Nat) (W : World) (hi : i < n)
  (h0 : W.cell? ⟨gt, 0, none⟩ = some (.slice (some ad) n c)) (hd : W.cell? ⟨gd, 0, none⟩ = some (.int .i64 a1)) (hc : W.cell? (ad.add (i * 2)) = some (.int .i64 x)) :
  Calls Try.prog 86 (#[.int .i64 i] ++ #[.pointer (some ⟨gt, 0, none⟩), .pointer (some ⟨gd, 0, none⟩)]) W fun e w' => e = .returned (.bool (decide (x > a1))) ∧ ∃ q, w' = W.drewN q := by
 have hiz : (i : Int) < (n : Int) := by omega
 have hu2 := Try.underlying53
 go_enter Try.func86, Try.ntmps86
 go_wp2
 go_region
 all_goals go_wp2
 all_goals go_ret
 all_goals exact ⟨by first | rfl | simp, 1, rfl⟩
theorem record_Sum.asc_at {l : List S53} (h : record_Sum.Asc l) (a b : Nat) (hab : a ≤ b) (hb : b < l.length) : (l.getD a z53).f0 ≤ (l.getD b z53).f0 := by
 have ha : a < l.length := by omega
 simp only [List.getD_eq_getElem?_getD, List.getElem?_eq_getElem ha, List.getElem?_eq_getElem hb, Option.getD_some]
 by_cases e : a = b
 ·subst e; exact Int.le_refl _
 ·exact List.pairwise_iff_getElem.mp h a b ha hb (by omega)
theorem record_Sum.count (l : List S53) (p : S53 → Bool) : (List.range l.length).countP (fun i => p (l.getD i z53)) = l.countP p := by
 have : l = (List.range l.length).map (fun i => l.getD i z53) := by
  apply List.ext_getElem
  ·simp
  ·intro i h1 h2; simp [h1]
 conv => rhs; rw [this, List.countP_map]
 rfl
open Go.Shelf Go.Sort in
theorem record_Sum.search (g0 g1 : Nat) (A : Option Addr) (c : Nat) (l : List (S53)) (a1 : Int) (W : World) (hC : Kd.C k53 W A l.length l) (hsz : l.length < 4611686018427387904) (hasc : record_Sum.Asc l)
  (h0 : W.cell? ⟨g0, 0, none⟩ = some (.slice A l.length c)) (h1 : W.cell? ⟨g1, 0, none⟩ = some (.int .i64 a1)) :
  Calls Try.prog 85 #[.int .i64 (l.length : Nat), .func (.func 86) #[] #[.pointer (some ⟨g0, 0, none⟩), .pointer (some ⟨g1, 0, none⟩)]] W
   fun e w' => e = .returned (.int .i64 ((l.countP (fun y => !decide (y.f0 > a1)) : Nat) : Int)) ∧ Below W.heap.size W w' := by
 have eg : ∀ args w, (callFunc 86 args).run Try.prog w = .ok (.enter 86 args) w := enters_of Try.func86 (by kernel_rfl) rfl
 have b0 := World.block_lt_of_cell? W _ h0
 have b1 := World.block_lt_of_cell? W _ h1
 have hS := Any.sort_Search Try.laysSearch 86 #[.pointer (some ⟨g0, 0, none⟩), .pointer (some ⟨g1, 0, none⟩)] l.length (fun i => decide ((l.getD i z53).f0 > a1)) W eg hsz
  (fun m os i hi => by
   obtain ⟨ad, rfl, hx, _⟩ := at_T53 hC (i : Int) (by omega) (by omega)
   have hx' : W.cell? (ad.add (i * 2)) = some (.int .i64 (l.getD i z53).f0) := by simpa [rd_T53] using hx
   have hlt := World.block_lt_of_cell? W _ hx'
   refine (record_Sum.clo g0 g1 l.length c ad a1 _ i _ hi (cell_grown b0 h0 m os) (cell_grown b1 h1 m os) (cell_grown hlt hx' m os)).mono ?_
   rintro _ _ ⟨he, q, hq⟩
   exact ⟨he, q, #[], by rw [hq, grow_empty]⟩)
  (fun a b hab hb hp => by have := record_Sum.asc_at hasc a b hab hb; simp only [decide_eq_true_eq] at hp ⊢; omega)
 rw [record_Sum.count l (fun y => !decide (y.f0 > a1))] at hS
 exact hS.mono fun e w' ⟨he, q, os, hw⟩ => ⟨he, by rw [hw]; exact below_grown_sl W.heap.size W q os (Nat.le_refl _)⟩
theorem record_Sum.mid (w W1 w2 : World) (A0 A : Option Addr) (c0 c n0 : Nat) (a1 : Int) (l : List (S53)) (HW : W1 = (w.alloc (.cells #[.slice A0 n0 c0] 22)).alloc (.cells #[.int .i64 a1] 3))
  (HB2 : Below W1.heap.size W1 w2) (HF : Kd.F k53 w2 (fun k_ => k_ < w.heap.size ∨ W1.heap.size ≤ k_) A l.length l) :
  ∃ W3, W3 = w2.setCell ⟨w.heap.size, 0, none⟩ (.slice A l.length c) ∧ Kd.F k53 W3 (fun k_ => k_ < w.heap.size ∨ W1.heap.size ≤ k_) A l.length l ∧
   W3.heap[w.heap.size]? = some (.cells #[.slice A l.length c] 22 (0, 0)) ∧ W3.heap[w.heap.size + 1]? = some (.cells #[.int .i64 a1] 3 (0, 0)) ∧ Below w.heap.size w W3 := by
 have hsize : W1.heap.size = w.heap.size + 1 + 1 := by rw [HW]; simp
 have b0 : W1.heap[w.heap.size]? = some (.cells #[.slice A0 n0 c0] 22 (0, 0)) := by rw [HW]; exact blk_alloc (blk_new _ _) _
 have b1 : W1.heap[w.heap.size + 1]? = some (.cells #[.int .i64 a1] 3 (0, 0)) := by
  rw [HW]
  have := blk_new (w.alloc (.cells #[.slice A0 n0 c0] 22)) (.cells #[.int .i64 a1] 3)
  rwa [World.size_alloc] at this
 have hB1 : Below w.heap.size w W1 := by rw [HW]; exact ((Below.refl _ w).alloc (Nat.le_refl _) _).alloc (by simp) _
 refine ⟨_, rfl, Kd.F_far (p := ⟨w.heap.size, 0, none⟩) HF (fun k hk => by show k ≠ w.heap.size; omega) _, blk_put (blk_below b0 HB2) 0 _ rfl, blk_far (p := ⟨w.heap.size, 0, none⟩) (blk_below b1 HB2) (by show w.heap.size + 1 ≠ w.heap.size; omega) _, ?_⟩
 exact below_set (below_step hB1 HB2) (Nat.le_refl _)
set_option maxHeartbeats 4000000 in
set_option maxRecDepth 100000 in
theorem record_Sum.calls (k : Nat) (A0 : Option Addr) (c0 : Nat) (l0 : List (S53)) (a1 : Int) (r : Int) (w : World) (hr0 : Kd.C k53 w A0 l0.length l0) (hc0 : l0.length ≤ c0) (h : record_Sum.f k l0 a1 = some r) :
  Calls Try.prog 56 #[.slice A0 l0.length c0, .int .i64 a1] w fun e w' => e = .returned (.int .i64 r) ∧ Below w.heap.size w w' := by
 unfold record_Sum.f at h
 obtain ⟨l, hl, h⟩ := Option.bind_eq_some_iff.mp h
 by_cases hs : l.length < 4611686018427387904 ∧ record_Sum.Asc l
 ·rw [if_pos hs] at h
  obtain ⟨hsz, hasc⟩ := hs
  obtain ⟨W1, hW1⟩ : ∃ W1, W1 = (w.alloc (.cells #[.slice A0 l0.length c0] 22)).alloc (.cells #[.int .i64 a1] 3) := ⟨_, rfl⟩
  have hsize : W1.heap.size = w.heap.size + 1 + 1 := by rw [hW1]; simp
  have hB1 : Below w.heap.size w W1 := by rw [hW1]; exact ((Below.refl _ w).alloc (Nat.le_refl _) _).alloc (by simp) _
  have b0 : W1.heap[w.heap.size]? = some (.cells #[.slice A0 l0.length c0] 22 (0, 0)) := by rw [hW1]; exact blk_alloc (blk_new _ _) _
  have b1 : W1.heap[w.heap.size + 1]? = some (.cells #[.int .i64 a1] 3 (0, 0)) := by
   rw [hW1]
   have := blk_new (w.alloc (.cells #[.slice A0 l0.length c0] 22)) (.cells #[.int .i64 a1] 3)
   rwa [World.size_alloc] at this
  have hV : Kd.V k53 53 W1 W1.heap.size (fun k_ => k_ < w.heap.size) (.slice A0 l0.length c0) l0 := Kd.V_mk hc0 (Kd.F_below (Kd.C_F k53_heap hr0) hB1)
  have HL := Aside0.mk (record_leaps.calls k (fun k_ => k_ < w.heap.size) A0 c0 l0 l W1 hV hl)
  have HW := Aside0.mk hW1
  have HZ := Aside0.mk hsize
  have HB1 := Aside0.mk hB1
  have B0 := Aside0.mk b0
  have B1 := Aside0.mk b1
  have HS := Aside0.mk hsz
  have HA := Aside0.mk hasc
  clear hV hW1 hsize hB1 b0 b1 hsz hasc hr0 hc0 hl
  generalize hcnt : l.countP (fun y => !decide (y.f0 > a1)) = cnt at h
  have HCNT := Aside0.mk hcnt
  clear hcnt
  have hu2 := Try.underlying53
  by_cases hz : cnt = 0
  ·rw [if_pos hz] at h
   obtain rfl := Option.some.inj h
   clear h
   have hcz : ((cnt : Int) == 0) = true := beq_iff_eq.mpr (by omega)
   have HCZ := Aside0.mk hz
   clear hz
   go_enter Try.func56, Try.ntmps56
   go_wp2_with (first | (go_at_call 84; rw [← HW.out]; refine HL.out.mono ?_; rintro e w2 ⟨v, rfl, hv, hb⟩; obtain ⟨A, c, rfl, hlc, hF⟩ := hv; have HF := Aside0.mk hF; have HB2 := Aside0.mk hb; have HLC := Aside0.mk hlc; have hcz0 : w2.cell? ⟨w.heap.size, 0, none⟩ = some (.slice A0 l0.length c0) := (blk_cell (blk_below B0.out HB2.out) 0).trans rfl; have hfz0 := blk_frozen (blk_below B0.out HB2.out) 0; have hcz1 : w2.cell? ⟨w.heap.size + 1, 0, none⟩ = some (.int .i64 a1) := (blk_cell (blk_below B1.out HB2.out) 0).trans rfl; clear hF hb hlc) | (go_at_call 85; obtain ⟨W3, hW3, hF3, hb30, hb31, hB3⟩ := record_Sum.mid w W1 w2 A0 A c0 c l0.length a1 l HW.out HB2.out HF.out; rw [← hW3]; refine (record_Sum.search w.heap.size (w.heap.size + 1) A c l a1 W3 (Kd.F_now hF3) HS.out HA.out ((blk_cell hb30 0).trans rfl) ((blk_cell hb31 0).trans rfl)).mono ?_; rintro e w4 ⟨rfl, hb4⟩; rw [HCNT.out]; have hB4 := Aside0.mk (below_step hB3 hb4); clear hW3 hF3 hb30 hb31 hB3 hb4))
   go_ret
   exact ⟨rfl, hB4.out⟩
  ·rw [if_neg hz] at h
   obtain rfl := Option.some.inj h
   clear h
   obtain ⟨m, rfl⟩ : ∃ m, cnt = m + 1 := ⟨cnt - 1, by omega⟩
   have HM : Aside0 (m < l.length) := ⟨by have := List.countP_le_length (p := fun y => !decide (y.f0 > a1)) (l := l); have := HCNT.out; omega⟩
   have hcz : (((m + 1 : Nat) : Int) == 0) = false := beq_eq_false_iff_ne.mpr (by omega)
   have hwz : wrap64 (m : Int) = (m : Int) := by have := HM.out; have := HS.out; unfold wrap64; omega
   clear hz
   go_enter Try.func56, Try.ntmps56
   go_wp2_with (first | (go_at_call 84; rw [← HW.out]; refine HL.out.mono ?_; rintro e w2 ⟨v, rfl, hv, hb⟩; obtain ⟨A, c, rfl, hlc, hF⟩ := hv; have HF := Aside0.mk hF; have HB2 := Aside0.mk hb; have HLC := Aside0.mk hlc; have hcz0 : w2.cell? ⟨w.heap.size, 0, none⟩ = some (.slice A0 l0.length c0) := (blk_cell (blk_below B0.out HB2.out) 0).trans rfl; have hfz0 := blk_frozen (blk_below B0.out HB2.out) 0; have hcz1 : w2.cell? ⟨w.heap.size + 1, 0, none⟩ = some (.int .i64 a1) := (blk_cell (blk_below B1.out HB2.out) 0).trans rfl; clear hF hb hlc) | (go_at_call 85; obtain ⟨W3, hW3, hF3, hb30, hb31, hB3⟩ := record_Sum.mid w W1 w2 A0 A c0 c l0.length a1 l HW.out HB2.out HF.out; rw [← hW3]; refine (record_Sum.search w.heap.size (w.heap.size + 1) A c l a1 W3 (Kd.F_now hF3) HS.out HA.out ((blk_cell hb30 0).trans rfl) ((blk_cell hb31 0).trans rfl)).mono ?_; rintro e w4 ⟨rfl, hb4⟩; rw [HCNT.out]; have hB4 := Aside0.mk (below_step hB3 hb4); have hF4 := Kd.F_below hF3 hb4; obtain ⟨ad, rfl, hx0, hx1⟩ := at_T53 (Kd.F_now hF4) (m : Int) (by omega) (by have := HM.out; omega); simp only [Int.toNat_natCast] at hx0 hx1; have hcz4 : w4.cell? ⟨w.heap.size, 0, none⟩ = some (.slice (some ad) l.length c) := (blk_cell (blk_below hb30 hb4) 0).trans rfl; have hmz : (m : Int) < (l.length : Int) := (by have := HM.out; omega); have hmz0 : 0 ≤ (m : Int) := (by omega); clear hW3 hF3 hb30 hb31 hB3 hb4 hF4))
   go_ret
   exact ⟨by simp [rd_T53], hB4.out⟩
 ·rw [if_neg hs] at h; exact absurd h (by simp)

/-! ### record_Step: function 58 -/
-- by hand: wip/hand
/-- are records in order? -/
def record_Step.Asc (l : List S53) : Prop := l.Pairwise (fun x y => x.f0 ≤ y.f0)
instance (l : List S53) : Decidable (record_Step.Asc l) := by unfold record_Step.Asc; exact inferInstance
/-- what is told of the place that the search finds -/
def record_Step.val (l : List S53) (a1 : Int) (n : Nat) : Int :=
 if n < l.length then (if (rd_T53 l n).f0 = a1 then (if n = 0 then (rd_T53 l 0).f1 else wrap64 ((rd_T53 l n).f1 - (rd_T53 l ((n : Int) - 1)).f1)) else 0) else 0
def record_Step.f (k : Nat) (l0 : List (S53)) (a1 : Int) : Option (Int) := (record_leaps.f k l0).bind fun l =>
 if l.length < 4611686018427387904 ∧ record_Step.Asc l then some (record_Step.val l a1 (l.countP (fun y => !decide (y.f0 ≥ a1)))) else none
theorem record_Step.mono : ∀ a0 a1 k, LeO (record_Step.f k a0 a1) (record_Step.f (k + 1) a0 a1) := by
 intro a0 a1 k
 unfold record_Step.f
 exact LeO.bind (record_leaps.mono _ _) (fun _ => LeO.refl _)
set_option maxHeartbeats 2000000 in
theorem record_Step.clo (gt gd n c : Nat) (ad : Addr) (a1 x : Int) (i : Nat) (W : World) (hi : i < n)
  (h0 : W.cell? ⟨gt, 0, none⟩ = some (.slice (some ad) n c)) (hd : W.cell? ⟨gd, 0, none⟩ = some (.int .i64 a1)) (hc : W.cell? (ad.add (i * 2)) = some (.int .i64 x)) :
  Calls Try.prog 87 (#[.int .i64 i] ++ #[.pointer (some ⟨gt, 0, none⟩), .pointer (some ⟨gd, 0, none⟩)]) W fun e w' => e = .returned (.bool (decide (x ≥ a1))) ∧ ∃ q, w' = W.drewN q := by
 have hiz : (i : Int) < (n : Int) := by omega
 have hu2 := Try.underlying53
 go_enter Try.func87, Try.ntmps87
 go_wp2
 go_region
 all_goals go_wp2
 all_goals go_ret
 all_goals exact ⟨by first | rfl | simp, 1, rfl⟩
theorem record_Step.asc_at {l : List S53} (h : record_Step.Asc l) (a b : Nat) (hab : a ≤ b) (hb : b < l.length) : (l.getD a z53).f0 ≤ (l.getD b z53).f0 := by
 have ha : a < l.length := by omega
 simp only [List.getD_eq_getElem?_getD, List.getElem?_eq_getElem ha, List.getElem?_eq_getElem hb, Option.getD_some]
 by_cases e : a = b
 ·subst e; exact Int.le_refl _
 ·exact List.pairwise_iff_getElem.mp h a b ha hb (by omega)
theorem record_Step.count (l : List S53) (p : S53 → Bool) : (List.range l.length).countP (fun i => p (l.getD i z53)) = l.countP p := by
 have : l = (List.range l.length).map (fun i => l.getD i z53) := by
  apply List.ext_getElem
  ·simp
  ·intro i h1 h2; simp [h1]
 conv => rhs; rw [this, List.countP_map]
 rfl
open Go.Shelf Go.Sort in
theorem record_Step.search (g0 g1 : Nat) (A : Option Addr) (c : Nat) (l : List (S53)) (a1 : Int) (W : World) (hC : Kd.C k53 W A l.length l) (hsz : l.length < 4611686018427387904) (hasc : record_Step.Asc l)
  (h0 : W.cell? ⟨g0, 0, none⟩ = some (.slice A l.length c)) (h1 : W.cell? ⟨g1, 0, none⟩ = some (.int .i64 a1)) :
  Calls Try.prog 85 #[.int .i64 (l.length : Nat), .func (.func 87) #[] #[.pointer (some ⟨g0, 0, none⟩), .pointer (some ⟨g1, 0, none⟩)]] W
   fun e w' => e = .returned (.int .i64 ((l.countP (fun y => !decide (y.f0 ≥ a1)) : Nat) : Int)) ∧ Below W.heap.size W w' := by
 have eg : ∀ args w, (callFunc 87 args).run Try.prog w = .ok (.enter 87 args) w := enters_of Try.func87 (by kernel_rfl) rfl
 have b0 := World.block_lt_of_cell? W _ h0
 have b1 := World.block_lt_of_cell? W _ h1
 have hS := Any.sort_Search Try.laysSearch 87 #[.pointer (some ⟨g0, 0, none⟩), .pointer (some ⟨g1, 0, none⟩)] l.length (fun i => decide ((l.getD i z53).f0 ≥ a1)) W eg hsz
  (fun m os i hi => by
   obtain ⟨ad, rfl, hx, _⟩ := at_T53 hC (i : Int) (by omega) (by omega)
   have hx' : W.cell? (ad.add (i * 2)) = some (.int .i64 (l.getD i z53).f0) := by simpa [rd_T53] using hx
   have hlt := World.block_lt_of_cell? W _ hx'
   refine (record_Step.clo g0 g1 l.length c ad a1 _ i _ hi (cell_grown b0 h0 m os) (cell_grown b1 h1 m os) (cell_grown hlt hx' m os)).mono ?_
   rintro _ _ ⟨he, q, hq⟩
   exact ⟨he, q, #[], by rw [hq, grow_empty]⟩)
  (fun a b hab hb hp => by have := record_Step.asc_at hasc a b hab hb; simp only [decide_eq_true_eq] at hp ⊢; omega)
 rw [record_Step.count l (fun y => !decide (y.f0 ≥ a1))] at hS
 exact hS.mono fun e w' ⟨he, q, os, hw⟩ => ⟨he, by rw [hw]; exact below_grown_sl W.heap.size W q os (Nat.le_refl _)⟩
theorem record_Step.mid (w W1 w2 : World) (A0 A : Option Addr) (c0 c n0 : Nat) (a1 : Int) (l : List (S53)) (HW : W1 = (w.alloc (.cells #[.slice A0 n0 c0] 22)).alloc (.cells #[.int .i64 a1] 3))
  (HB2 : Below W1.heap.size W1 w2) (HF : Kd.F k53 w2 (fun k_ => k_ < w.heap.size ∨ W1.heap.size ≤ k_) A l.length l) :
  ∃ W3, W3 = w2.setCell ⟨w.heap.size, 0, none⟩ (.slice A l.length c) ∧ Kd.F k53 W3 (fun k_ => k_ < w.heap.size ∨ W1.heap.size ≤ k_) A l.length l ∧
   W3.heap[w.heap.size]? = some (.cells #[.slice A l.length c] 22 (0, 0)) ∧ W3.heap[w.heap.size + 1]? = some (.cells #[.int .i64 a1] 3 (0, 0)) ∧ Below w.heap.size w W3 := by
 have hsize : W1.heap.size = w.heap.size + 1 + 1 := by rw [HW]; simp
 have b0 : W1.heap[w.heap.size]? = some (.cells #[.slice A0 n0 c0] 22 (0, 0)) := by rw [HW]; exact blk_alloc (blk_new _ _) _
 have b1 : W1.heap[w.heap.size + 1]? = some (.cells #[.int .i64 a1] 3 (0, 0)) := by
  rw [HW]
  have := blk_new (w.alloc (.cells #[.slice A0 n0 c0] 22)) (.cells #[.int .i64 a1] 3)
  rwa [World.size_alloc] at this
 have hB1 : Below w.heap.size w W1 := by rw [HW]; exact ((Below.refl _ w).alloc (Nat.le_refl _) _).alloc (by simp) _
 refine ⟨_, rfl, Kd.F_far (p := ⟨w.heap.size, 0, none⟩) HF (fun k hk => by show k ≠ w.heap.size; omega) _, blk_put (blk_below b0 HB2) 0 _ rfl, blk_far (p := ⟨w.heap.size, 0, none⟩) (blk_below b1 HB2) (by show w.heap.size + 1 ≠ w.heap.size; omega) _, ?_⟩
 exact below_set (below_step hB1 HB2) (Nat.le_refl _)
set_option maxHeartbeats 4000000 in
set_option maxRecDepth 100000 in
theorem record_Step.calls (k : Nat) (A0 : Option Addr) (c0 : Nat) (l0 : List (S53)) (a1 : Int) (r : Int) (w : World) (hr0 : Kd.C k53 w A0 l0.length l0) (hc0 : l0.length ≤ c0) (h : record_Step.f k l0 a1 = some r) :
  Calls Try.prog 58 #[.slice A0 l0.length c0, .int .i64 a1] w fun e w' => e = .returned (.int .i64 r) ∧ Below w.heap.size w w' := by
 unfold record_Step.f at h
 obtain ⟨l, hl, h⟩ := Option.bind_eq_some_iff.mp h
 by_cases hs : l.length < 4611686018427387904 ∧ record_Step.Asc l
 ·rw [if_pos hs] at h
  obtain ⟨hsz, hasc⟩ := hs
  obtain ⟨W1, hW1⟩ : ∃ W1, W1 = (w.alloc (.cells #[.slice A0 l0.length c0] 22)).alloc (.cells #[.int .i64 a1] 3) := ⟨_, rfl⟩
  have hsize : W1.heap.size = w.heap.size + 1 + 1 := by rw [hW1]; simp
  have hB1 : Below w.heap.size w W1 := by rw [hW1]; exact ((Below.refl _ w).alloc (Nat.le_refl _) _).alloc (by simp) _
  have b0 : W1.heap[w.heap.size]? = some (.cells #[.slice A0 l0.length c0] 22 (0, 0)) := by rw [hW1]; exact blk_alloc (blk_new _ _) _
  have b1 : W1.heap[w.heap.size + 1]? = some (.cells #[.int .i64 a1] 3 (0, 0)) := by
   rw [hW1]
   have := blk_new (w.alloc (.cells #[.slice A0 l0.length c0] 22)) (.cells #[.int .i64 a1] 3)
   rwa [World.size_alloc] at this
  have hV : Kd.V k53 53 W1 W1.heap.size (fun k_ => k_ < w.heap.size) (.slice A0 l0.length c0) l0 := Kd.V_mk hc0 (Kd.F_below (Kd.C_F k53_heap hr0) hB1)
  have HL := Aside0.mk (record_leaps.calls k (fun k_ => k_ < w.heap.size) A0 c0 l0 l W1 hV hl)
  have HW := Aside0.mk hW1
  have HZ := Aside0.mk hsize
  have HB1 := Aside0.mk hB1
  have B0 := Aside0.mk b0
  have B1 := Aside0.mk b1
  have HS := Aside0.mk hsz
  have HA := Aside0.mk hasc
  clear hV hW1 hsize hB1 b0 b1 hsz hasc hr0 hc0 hl
  generalize hcnt : l.countP (fun y => !decide (y.f0 ≥ a1)) = cnt at h
  have HCNT := Aside0.mk hcnt
  clear hcnt
  have hu2 := Try.underlying53
  by_cases hlt : cnt < l.length
  rotate_left
  ·rw [show record_Step.val l a1 cnt = 0 by unfold record_Step.val; rw [if_neg hlt]] at h
   obtain rfl := Option.some.inj h
   clear h
   have hcz : ((cnt : Int) == (l.length : Int)) = true := beq_iff_eq.mpr (by have := List.countP_le_length (p := fun y => !decide (y.f0 ≥ a1)) (l := l); have := HCNT.out; omega)
   clear hlt
   go_enter Try.func58, Try.ntmps58
   go_wp2_with (first | (go_at_call 84; rw [← HW.out]; refine HL.out.mono ?_; rintro e w2 ⟨v, rfl, hv, hb⟩; obtain ⟨A, c, rfl, hlc, hF⟩ := hv; have HF := Aside0.mk hF; have HB2 := Aside0.mk hb; have HLC := Aside0.mk hlc; have hcz0 : w2.cell? ⟨w.heap.size, 0, none⟩ = some (.slice A0 l0.length c0) := (blk_cell (blk_below B0.out HB2.out) 0).trans rfl; have hfz0 := blk_frozen (blk_below B0.out HB2.out) 0; have hcz1 : w2.cell? ⟨w.heap.size + 1, 0, none⟩ = some (.int .i64 a1) := (blk_cell (blk_below B1.out HB2.out) 0).trans rfl; clear hF hb hlc) | (go_at_call 85; obtain ⟨W3, hW3, hF3, hb30, hb31, hB3⟩ := record_Step.mid w W1 w2 A0 A c0 c l0.length a1 l HW.out HB2.out HF.out; rw [← hW3]; refine (record_Step.search w.heap.size (w.heap.size + 1) A c l a1 W3 (Kd.F_now hF3) HS.out HA.out ((blk_cell hb30 0).trans rfl) ((blk_cell hb31 0).trans rfl)).mono ?_; rintro e w4 ⟨rfl, hb4⟩; rw [HCNT.out]; have hB4 := Aside0.mk (below_step hB3 hb4); have hF4 := Kd.F_below hF3 hb4; have hcz4 : w4.cell? ⟨w.heap.size, 0, none⟩ = some (.slice A l.length c) := (blk_cell (blk_below hb30 hb4) 0).trans rfl; have hcz5 : w4.cell? ⟨w.heap.size + 1, 0, none⟩ = some (.int .i64 a1) := (blk_cell (blk_below hb31 hb4) 0).trans rfl; clear hW3 hF3 hb30 hb31 hB3 hb4 hF4))
   go_region
   all_goals go_wp2
   go_ret
   exact ⟨by first | rfl | simp [*], by repeat (first | exact hB4.out | apply below_drew1 | apply pw_below_drewN)⟩
  have HM : Aside0 (cnt < l.length) := ⟨hlt⟩
  by_cases hat : (rd_T53 l (cnt : Int)).f0 = a1
  rotate_left
  ·rw [show record_Step.val l a1 cnt = 0 by unfold record_Step.val; rw [if_pos hlt, if_neg hat]] at h
   obtain rfl := Option.some.inj h
   clear h
   have hcz : ((cnt : Int) == (l.length : Int)) = false := beq_eq_false_iff_ne.mpr (by omega)
   have hmz : (cnt : Int) < (l.length : Int) := (by omega)
   have hmz0 : 0 ≤ (cnt : Int) := (by omega)
   have hne : ((rd_T53 l (cnt : Int)).f0 != a1) = true := bne_iff_ne.mpr hat
   clear hlt
   go_enter Try.func58, Try.ntmps58
   go_wp2_with (first | (go_at_call 84; rw [← HW.out]; refine HL.out.mono ?_; rintro e w2 ⟨v, rfl, hv, hb⟩; obtain ⟨A, c, rfl, hlc, hF⟩ := hv; have HF := Aside0.mk hF; have HB2 := Aside0.mk hb; have HLC := Aside0.mk hlc; have hcz0 : w2.cell? ⟨w.heap.size, 0, none⟩ = some (.slice A0 l0.length c0) := (blk_cell (blk_below B0.out HB2.out) 0).trans rfl; have hfz0 := blk_frozen (blk_below B0.out HB2.out) 0; have hcz1 : w2.cell? ⟨w.heap.size + 1, 0, none⟩ = some (.int .i64 a1) := (blk_cell (blk_below B1.out HB2.out) 0).trans rfl; clear hF hb hlc) | (go_at_call 85; obtain ⟨W3, hW3, hF3, hb30, hb31, hB3⟩ := record_Step.mid w W1 w2 A0 A c0 c l0.length a1 l HW.out HB2.out HF.out; rw [← hW3]; refine (record_Step.search w.heap.size (w.heap.size + 1) A c l a1 W3 (Kd.F_now hF3) HS.out HA.out ((blk_cell hb30 0).trans rfl) ((blk_cell hb31 0).trans rfl)).mono ?_; rintro e w4 ⟨rfl, hb4⟩; rw [HCNT.out]; have hB4 := Aside0.mk (below_step hB3 hb4); have hF4 := Kd.F_below hF3 hb4; have hcz4 : w4.cell? ⟨w.heap.size, 0, none⟩ = some (.slice A l.length c) := (blk_cell (blk_below hb30 hb4) 0).trans rfl; have hcz5 : w4.cell? ⟨w.heap.size + 1, 0, none⟩ = some (.int .i64 a1) := (blk_cell (blk_below hb31 hb4) 0).trans rfl; obtain ⟨ada, ea, hxa0, hxa1⟩ := at_T53 (Kd.F_now hF4) ((cnt : Int)) (by omega) (by have := HM.out; omega); cases ea; simp only [Int.toNat_natCast] at hxa0 hxa1; clear hW3 hF3 hb30 hb31 hB3 hb4 hF4))
   go_region
   all_goals go_wp2
   go_ret
   exact ⟨by first | rfl | simp [*], by repeat (first | exact hB4.out | apply below_drew1 | apply pw_below_drewN)⟩
  by_cases hz : cnt = 0
  ·subst hz
   rw [show record_Step.val l a1 0 = (rd_T53 l 0).f1 by unfold record_Step.val; rw [if_pos hlt, if_pos (by simpa using hat), if_pos rfl]] at h
   obtain rfl := Option.some.inj h
   clear h
   have hcz : ((0 : Int) == (l.length : Int)) = false := beq_eq_false_iff_ne.mpr (by omega)
   have hmz : (0 : Int) < (l.length : Int) := (by omega)
   have hat0 : (rd_T53 l 0).f0 = a1 := by simpa using hat
   have hne : ((rd_T53 l 0).f0 != a1) = false := bne_eq_false_iff_eq.mpr hat0
   clear hlt hat
   go_enter Try.func58, Try.ntmps58
   go_wp2_with (first | (go_at_call 84; rw [← HW.out]; refine HL.out.mono ?_; rintro e w2 ⟨v, rfl, hv, hb⟩; obtain ⟨A, c, rfl, hlc, hF⟩ := hv; have HF := Aside0.mk hF; have HB2 := Aside0.mk hb; have HLC := Aside0.mk hlc; have hcz0 : w2.cell? ⟨w.heap.size, 0, none⟩ = some (.slice A0 l0.length c0) := (blk_cell (blk_below B0.out HB2.out) 0).trans rfl; have hfz0 := blk_frozen (blk_below B0.out HB2.out) 0; have hcz1 : w2.cell? ⟨w.heap.size + 1, 0, none⟩ = some (.int .i64 a1) := (blk_cell (blk_below B1.out HB2.out) 0).trans rfl; clear hF hb hlc) | (go_at_call 85; obtain ⟨W3, hW3, hF3, hb30, hb31, hB3⟩ := record_Step.mid w W1 w2 A0 A c0 c l0.length a1 l HW.out HB2.out HF.out; rw [← hW3]; refine (record_Step.search w.heap.size (w.heap.size + 1) A c l a1 W3 (Kd.F_now hF3) HS.out HA.out ((blk_cell hb30 0).trans rfl) ((blk_cell hb31 0).trans rfl)).mono ?_; rintro e w4 ⟨rfl, hb4⟩; rw [HCNT.out]; have hB4 := Aside0.mk (below_step hB3 hb4); have hF4 := Kd.F_below hF3 hb4; have hcz4 : w4.cell? ⟨w.heap.size, 0, none⟩ = some (.slice A l.length c) := (blk_cell (blk_below hb30 hb4) 0).trans rfl; have hcz5 : w4.cell? ⟨w.heap.size + 1, 0, none⟩ = some (.int .i64 a1) := (blk_cell (blk_below hb31 hb4) 0).trans rfl; obtain ⟨ada, ea, hxa0, hxa1⟩ := at_T53 (Kd.F_now hF4) ((0 : Int)) (by omega) (by have := HM.out; omega); cases ea; simp only [Int.toNat_zero, Nat.zero_mul] at hxa0 hxa1; rw [show ada.add 0 = ada from rfl] at hxa0 hxa1; clear hW3 hF3 hb30 hb31 hB3 hb4 hF4))
   go_region
   all_goals go_wp2
   go_ret
   exact ⟨by first | rfl | simp [*], by repeat (first | exact hB4.out | apply below_drew1 | apply pw_below_drewN)⟩
  ·obtain ⟨m, rfl⟩ : ∃ m, cnt = m + 1 := ⟨cnt - 1, by omega⟩
   have ec : ((m + 1 : Nat) : Int) = (m : Int) + 1 := by omega
   rw [ec] at hat
   rw [show record_Step.val l a1 (m + 1) = wrap64 ((rd_T53 l ((m : Int) + 1)).f1 - (rd_T53 l (m : Int)).f1) by unfold record_Step.val; rw [ec, if_pos hlt, if_pos hat, if_neg (by omega), show (m : Int) + 1 - 1 = (m : Int) by omega]] at h
   obtain rfl := Option.some.inj h
   clear h ec
   have hcz : ((m : Int) + 1 == (l.length : Int)) = false := beq_eq_false_iff_ne.mpr (by omega)
   have hc0 : ((m : Int) + 1 == 0) = false := beq_eq_false_iff_ne.mpr (by omega)
   have hmz : (m : Int) + 1 < (l.length : Int) := (by omega)
   have hmz0 : 0 ≤ (m : Int) + 1 := (by omega)
   have hmy : (m : Int) < (l.length : Int) := (by omega)
   have hmy0 : 0 ≤ (m : Int) := (by omega)
   have hne : ((rd_T53 l ((m : Int) + 1)).f0 != a1) = false := bne_eq_false_iff_eq.mpr hat
   have hwz : wrap64 (m : Int) = (m : Int) := by have := HM.out; have := HS.out; unfold wrap64; omega
   clear hlt hz
   go_enter Try.func58, Try.ntmps58
   go_wp2_with (first | (go_at_call 84; rw [← HW.out]; refine HL.out.mono ?_; rintro e w2 ⟨v, rfl, hv, hb⟩; obtain ⟨A, c, rfl, hlc, hF⟩ := hv; have HF := Aside0.mk hF; have HB2 := Aside0.mk hb; have HLC := Aside0.mk hlc; have hcz0 : w2.cell? ⟨w.heap.size, 0, none⟩ = some (.slice A0 l0.length c0) := (blk_cell (blk_below B0.out HB2.out) 0).trans rfl; have hfz0 := blk_frozen (blk_below B0.out HB2.out) 0; have hcz1 : w2.cell? ⟨w.heap.size + 1, 0, none⟩ = some (.int .i64 a1) := (blk_cell (blk_below B1.out HB2.out) 0).trans rfl; clear hF hb hlc) | (go_at_call 85; obtain ⟨W3, hW3, hF3, hb30, hb31, hB3⟩ := record_Step.mid w W1 w2 A0 A c0 c l0.length a1 l HW.out HB2.out HF.out; rw [← hW3]; refine (record_Step.search w.heap.size (w.heap.size + 1) A c l a1 W3 (Kd.F_now hF3) HS.out HA.out ((blk_cell hb30 0).trans rfl) ((blk_cell hb31 0).trans rfl)).mono ?_; rintro e w4 ⟨rfl, hb4⟩; rw [HCNT.out]; have hB4 := Aside0.mk (below_step hB3 hb4); have hF4 := Kd.F_below hF3 hb4; have hcz4 : w4.cell? ⟨w.heap.size, 0, none⟩ = some (.slice A l.length c) := (blk_cell (blk_below hb30 hb4) 0).trans rfl; have hcz5 : w4.cell? ⟨w.heap.size + 1, 0, none⟩ = some (.int .i64 a1) := (blk_cell (blk_below hb31 hb4) 0).trans rfl; obtain ⟨ada, ea, hxa0, hxa1⟩ := at_T53 (Kd.F_now hF4) ((m : Int) + 1) (by omega) (by have := HM.out; omega); cases ea; rw [show ((m : Int) + 1).toNat = m + 1 by omega] at hxa0 hxa1; obtain ⟨adb, eb, hxb0, hxb1⟩ := at_T53 (Kd.F_now hF4) ((m : Int)) (by omega) (by have := HM.out; omega); cases eb; simp only [Int.toNat_natCast] at hxb0 hxb1; clear hW3 hF3 hb30 hb31 hB3 hb4 hF4))
   go_region
   all_goals go_wp2
   all_goals go_region
   all_goals go_wp2
   go_ret
   exact ⟨by first | rfl | simp [*], by repeat (first | exact hB4.out | apply below_drew1 | apply pw_below_drewN)⟩
 ·rw [if_neg hs] at h; exact absurd h (by simp)

end Go.Proofs.Ythoigncoojcanaa.PAll
