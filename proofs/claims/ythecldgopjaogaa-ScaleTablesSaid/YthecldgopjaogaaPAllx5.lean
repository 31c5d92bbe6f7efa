-- Written for this claim by wip/tools of this repo (after the kit's print; own contracts laid in).
import Derived.Test.YthecldgopjaogaaPAllx0
import Derived.Test.YthecldgopjaogaaPAllx3
import Derived.Test.YthecldgopjaogaaPAllx4
namespace Go.Proofs.Ythecldgopjaogaa.PAll
open Go.RowKit Go.Proofs.YthecldgopjaogaaW.PrintWords Go.Proofs.YthecldgopjaogaaW.PrintLast Go.Proofs.YthecldgopjaogaaW.PrintMore
attribute [local go_sem] max2_int min2_int max_two min_two max_three min_three max_four min_four   -- for this text's walks alone
set_option linter.unusedVariables false
set_option linter.unusedSimpArgs false

/-! ### scale_begins: function 32 -/
-- by hand: wip/hand
/-- the steps of the leaps ahead of a day, from the first one on -/
def scale_begins.sum (d : Int) : List S53 → Int → Int
  | [], s => s
  | y :: ys, s => if y.f0 < d then scale_begins.sum d ys (wrap64 (s + y.f1)) else s
def scale_begins.f (k : Nat) (l0 : List (S45)) (a1 : Int) : Option (Int) := (record_Table.f k l0).bind fun bt => some (wrap64 (wrap64 (a1 * 86400) + scale_begins.sum a1 bt.1 0))
theorem scale_begins.mono : ∀ a0 a1 k, LeO (scale_begins.f k a0 a1) (scale_begins.f (k + 1) a0 a1) := by
  intro a0 a1 k
  unfold scale_begins.f
  exact LeO.bind (record_Table.mono _ _) (fun _ => LeO.refl _)
def scale_begins.intOf : Value → Int
  | .int _ n => n
  | _ => 0
theorem scale_begins.sum_drop (d : Int) (ys : List S53) (kk : Nat) (s : Int) (h : kk < ys.length) : scale_begins.sum d (ys.drop kk) s = if (rd_T53 ys ((kk : Nat) : Int)).f0 < d then scale_begins.sum d (ys.drop (kk + 1)) (wrap64 (s + (rd_T53 ys ((kk : Nat) : Int)).f1)) else s := by
  have e : rd_T53 ys (kk : Int) = ys[kk] := by unfold rd_T53; rw [Int.toNat_natCast]; simp [List.getD, h]
  rw [e, List.drop_eq_getElem_cons h]; rfl
theorem scale_begins.mid (w w9 : World) (gb : Nat) (Ao : Option Addr) (co : Nat) (ys : List S53) (b1 : Bool) (e1 : Int)
    (HO : Kd.R k53 53 w9 w.heap.size (fun _ => True) (.slice Ao ys.length co) ys) (BK : w9.heap[gb]? = some (.cells #[.slice none 0 0, .bool false, .int .i64 0] 38 (0, 0))) (HB : Below w.heap.size w w9) (GE : w.heap.size ≤ gb) :
    ∃ W3, W3 = ((w9.setCell ⟨gb, 0, none⟩ (.slice Ao ys.length co)).setCell ⟨gb, 1, none⟩ (.bool b1)).setCell ⟨gb, 2, none⟩ (.int .i64 e1) ∧ Kd.C k53 W3 Ao ys.length ys ∧ W3.cell? ⟨gb, 0, none⟩ = some (.slice Ao ys.length co) ∧ Below w.heap.size w W3 ∧ ys.length ≤ 9223372036854775807 := by
  have HC : Kd.C k53 (((w9.setCell ⟨gb, 0, none⟩ (.slice Ao ys.length co)).setCell ⟨gb, 1, none⟩ (.bool b1)).setCell ⟨gb, 2, none⟩ (.int .i64 e1)) Ao ys.length ys := by
    refine (Kd.R_reads' (e := 53) (base := w.heap.size) (ok := fun k_ => True) (n := ys.length) (c := co) ?_).2.2
    exact (Kd.R_mono (Kd.R_far (p := ⟨gb, 2, none⟩) (Kd.R_far (p := ⟨gb, 1, none⟩) (Kd.R_far (p := ⟨gb, 0, none⟩) (Kd.R_types HO BK (by decide)) (fun _ hk => hk.2) (.slice Ao ys.length co)) (fun _ hk => hk.2) (.bool b1)) (fun _ hk => hk.2) (.int .i64 e1)) (fun _ h_ => h_.1))
  refine ⟨_, rfl, HC, ?_, below_set (below_set (below_set HB GE) GE) GE, HC.2.1⟩
  have b := blk_put (cs' := #[.slice Ao ys.length co, .bool b1, .int .i64 e1]) (blk_put (cs' := #[.slice Ao ys.length co, .bool b1, .int .i64 0]) (blk_put (cs' := #[.slice Ao ys.length co, .bool false, .int .i64 0]) BK 0 (.slice Ao ys.length co) rfl) 1 (.bool b1) rfl) 2 (.int .i64 e1) rfl
  exact (blk_cell b 0).trans rfl
def scale_begins.J (A0 : Option Addr) (c0 : Nat) (l0 : List S45) (a1 : Int) (ys : List S53) (ok : Bool) (w : World) : Act → World → Prop := fun a' w' =>
  ∃ (gb : Nat) (Ao : Option Addr) (co kk : Nat) (s : Int) (u9 u10 u11 u12 u13 u14 u15 u16 u17 u18 u19 u20 u21 u22 u23 u24 u25 u26 u27 u28 u29 u30 u31 u32 u33 u34 u35 u36 u37 u38 u39 u40 u41 u42 : Value), a' = { tmps := #[.slice A0 l0.length c0, .int .i64 a1, undef, undef, .int .i64 0, .pointer (some ⟨gb, 0, none⟩), .bool ok, .int .i64 (kk : Nat), .int .i64 s, u9, u10, u11, u12, u13, u14, u15, u16, u17, u18, u19, u20, u21, u22, u23, u24, u25, u26, u27, u28, u29, u30, u31, u32, u33, u34, u35, u36, u37, u38, u39, u40, u41, u42], defers := [] } ∧ kk ≤ ys.length ∧ ys.length ≤ 9223372036854775807 ∧ w'.cell? ⟨gb, 0, none⟩ = some (.slice Ao ys.length co) ∧ Aside0 (Kd.C k53 w' Ao ys.length ys) ∧ Aside0 (Below w.heap.size w w') ∧ Aside0 (scale_begins.sum a1 (ys.drop kk) s = scale_begins.sum a1 ys 0)
set_option maxHeartbeats 8000000 in
set_option maxRecDepth 100000 in
theorem scale_begins.calls (k : Nat) (A0 : Option Addr) (c0 : Nat) (l0 : List (S45)) (a1 : Int) (r : Int) (w : World) (hr0 : Kd.C k45 w A0 l0.length l0) (hc0 : l0.length ≤ c0) (h : scale_begins.f k l0 a1 = some r) :
    Calls Try.prog 32 #[.slice A0 l0.length c0, .int .i64 a1] w fun e w' => e = .returned (.int .i64 r) ∧ Below w.heap.size w w' := by
  have hu38 := Try.underlying38
  have huL := Try.underlying53
  have HR0 := Aside0.mk hr0
  have HC0 := Aside0.mk hc0
  clear hr0 hc0
  unfold scale_begins.f at h
  obtain ⟨⟨ys, b1, e1, ok⟩, hT, h⟩ := Option.bind_eq_some_iff.mp h
  have HT := Aside0.mk hT
  have E := Option.some.inj h
  have FIN : Aside0 (∀ (s : Int), scale_begins.sum a1 ys 0 = s → wrap64 (wrap64 (a1 * 86400) + s) = r) := ⟨fun s hs => by rw [← hs]; exact E⟩
  clear hT h E
  go_enter Try.func32, Try.ntmps32
  go_wp2
  refine wp_scope_jumps 0 (scale_begins.J A0 c0 l0 a1 ys ok w) (fun a' _ => ys.length - (scale_begins.intOf (a'.tmps.getD 7 undef)).toNat) rfl ?_ ?_
  · go_wp2_with (first | ((with_reducible refine gate_callee (f := 39) rfl ?_); refine goesL_ (some 11) rfl rfl Try.func39 (by kernel_rfl) rfl #[.slice A0 l0.length c0] rfl (by (try simp only [List.map_toArray, List.map_cons, List.map_nil]); first | done | rfl) ?_; (with_reducible refine (record_Table.calls k _ _ l0 ys b1 e1 ok _ ?side1 ?side2 HT.out).mono ?_); (case side1 => exact HR0.out); (case side2 => exact HC0.out); rintro e w8 ⟨v181, rfl, ho0, hb⟩; refine ⟨_, rfl, ?_⟩; have HO182 := Aside0.mk ho0; have HB2 := Aside0.mk hb; clear hb ho0) | ((with_reducible refine gate_dst (N := 5) rfl ?_); refine box_event ?hg (N := 5) ?hd (cs := #[.slice none 0 0, .bool false, .int .i64 0]) (t := 38) ?hr ?_; (case hd => rfl); (case hg => rfl); (case hr => first | (go_simp; done) | (go_simp; rfl)); intro gb hg w9 hbox hb; have HO := Aside0.mk (Kd.R_below HO182.out hb); have HB3 := Aside0.mk (below_step HB2.out hb); have BK := Aside0.mk hbox; have GE := Aside0.mk ((by rw [hg]; exact below_size HB2.out) : w.heap.size ≤ gb); clear HO182 HB2 hb hbox hg; obtain ⟨Ao, co, eo⟩ := Kd.R_slice HO.out; subst eo; have hcz0 : w9.cell? ⟨gb, 0, none⟩ = some (.slice none 0 0) := (blk_cell BK.out 0).trans rfl; have hcz1 : w9.cell? ⟨gb, 1, none⟩ = some (.bool false) := (blk_cell BK.out 1).trans rfl; have hcz2 : w9.cell? ⟨gb, 2, none⟩ = some (.int .i64 0) := (blk_cell BK.out 2).trans rfl; have hfz0 := blk_frozen BK.out 0; have hfz1 := blk_frozen BK.out 1; have hfz2 := blk_frozen BK.out 2))
    clear hcz0 hcz1 hcz2 hfz0 hfz1 hfz2
    obtain ⟨W3, hW3, hC, hcell, hB, hlen⟩ := scale_begins.mid w w9 gb Ao co ys b1 e1 HO.out BK.out HB3.out GE.out
    rw [← hW3]
    have HC3 := Aside0.mk hC
    have HB4 := Aside0.mk hB
    clear hC hB HO BK HB3 GE hW3
    go_step3
    by_cases hlt : 0 < ys.length
    · obtain ⟨ad, e0, hx0, hx1, hx2⟩ := at_T53 HC3.out (((0 : Nat) : Int) : Int) (by omega) (by omega)
      cases e0
      simp only [Int.toNat_natCast] at hx0 hx1 hx2
      have hltz : (0 : Int) < (ys.length : Int) := by omega
      simp only [Nat.zero_mul] at hx0 hx1 hx2
      rw [show ad.add 0 = ad from rfl] at hx0 hx1 hx2
      have hsd := scale_begins.sum_drop a1 ys 0 0 hlt
      generalize hgy : rd_T53 ys ((0 : Nat) : Int) = y at hx0 hx1 hx2 hsd
      have Y := Aside0.mk hgy
      clear hgy
      have SD := Aside0.mk hsd
      clear hsd
      by_cases hd : y.f0 < a1
      · go_wp2
        try go_step3
        refine ⟨rfl, gb, some ad, co, 1, wrap64 y.f1, _, _, _, _, _, _, _, _, _, _, _, _, _, _, _, _, _, _, _, _, _, _, _, _, _, _, _, _, _, _, _, _, _, _, rfl, by omega, hlen, hcell, HC3, HB4, ⟨?_⟩⟩
        have q := SD.out; rw [if_pos (by omega), Int.zero_add] at q; exact q.symm
      · go_wp2
        simp only [Exit.jump]
        go_ret
        refine ⟨?_, HB4.out⟩
        have q := SD.out; rw [if_neg (by omega)] at q; have z := FIN.out 0 q; rw [Int.add_zero] at z; rw [z]; rfl
    · have hltz : ¬ (0 : Int) < (ys.length : Int) := by omega
      go_wp2
      simp only [Exit.jump]
      go_ret
      refine ⟨?_, HB4.out⟩
      have q : scale_begins.sum a1 ys 0 = 0 := by cases ys with | nil => rfl | cons x xs => exact absurd (Nat.succ_pos xs.length) hlt
      have z := FIN.out 0 q; rw [Int.add_zero] at z; rw [z]; rfl
  · rintro a' wr ⟨gb, Ao, co, kk, s, u9, u10, u11, u12, u13, u14, u15, u16, u17, u18, u19, u20, u21, u22, u23, u24, u25, u26, u27, u28, u29, u30, u31, u32, u33, u34, u35, u36, u37, u38, u39, u40, u41, u42, rfl, hkk, hlen, hcell, HC3, HB4, SUM⟩
    skip
    by_cases hlt : kk < ys.length
    · obtain ⟨ad, e0, hx0, hx1, hx2⟩ := at_T53 HC3.out (((kk : Nat) : Int) : Int) (by omega) (by omega)
      cases e0
      simp only [Int.toNat_natCast] at hx0 hx1 hx2
      have hltz : ((kk : Nat) : Int) < (ys.length : Int) := by omega
      have hsd := scale_begins.sum_drop a1 ys kk s hlt
      generalize hgy : rd_T53 ys ((kk : Nat) : Int) = y at hx0 hx1 hx2 hsd
      have Y := Aside0.mk hgy
      clear hgy
      have SD := Aside0.mk hsd
      clear hsd
      by_cases hd : y.f0 < a1
      · go_wp2
        try go_step3
        refine ⟨rfl, ⟨gb, some ad, co, kk + 1, wrap64 (s + y.f1), _, _, _, _, _, _, _, _, _, _, _, _, _, _, _, _, _, _, _, _, _, _, _, _, _, _, _, _, _, _, _, _, _, _, rfl, by omega, hlen, hcell, HC3, HB4, ⟨?_⟩⟩, ?_⟩
        · have q := SD.out; rw [if_pos (by omega)] at q; exact q.symm.trans SUM.out
        · simp [scale_begins.intOf]; omega
      · go_wp2
        simp only [Exit.jump]
        go_ret
        refine ⟨?_, HB4.out⟩
        have q := SD.out; rw [if_neg (by omega)] at q; rw [FIN.out s (SUM.out.symm.trans q)]; rfl
    · have hltz : ¬ ((kk : Nat) : Int) < (ys.length : Int) := by omega
      go_wp2
      simp only [Exit.jump]
      go_ret
      refine ⟨?_, HB4.out⟩
      have q := SUM.out; rw [List.drop_eq_nil_of_le (by omega)] at q; rw [FIN.out s q.symm]; rfl

/-! ### scale_Tai: function 12 -/
def scale_Tai.j0 : Nat → List (S45) → Int → Int → Int → Bool → Option (Int × Int)
  | 0, _, _, _, _, _ => none
  | k + 1, x0, x1, x2, x8, x21 => if x21 = true then (some (0, 9)) else (if x2 ≥ x8 then (some (0, 11)) else ((scale_begins.f k x0 x1).bind fun t194 => ((scale_expired.f k x0 (wrap64 (t194 + x2))).bind fun t195 => (if t195 = true then (some (0, 10)) else (some (wrap64 ((wrap64 (t194 + x2)) - 63072000), 0))))))
def scale_Tai.f (k : Nat) (l0 : List (S45)) (a1 : Int) (a2 : Int) : Option (Int × Int) := (scale_Length.f k l0 a1).bind fun bt192 => (if bt192.2 = 0 then (if a2 < 0 then (scale_Tai.j0 k l0 a1 a2 bt192.1 (decide (a2 < 0))) else (scale_Tai.j0 k l0 a1 a2 bt192.1 (decide (a2 > 86400)))) else (some (0, bt192.2)))
theorem scale_Tai.mono_l : ∀ k, (∀ y0 y1 y2 y3 y4, LeO (scale_Tai.j0 k y0 y1 y2 y3 y4) (scale_Tai.j0 (k + 1) y0 y1 y2 y3 y4))
  | 0 => fun _ _ _ _ _ r h => by simp [scale_Tai.j0] at h
  | k + 1 => by
    have ih0 := scale_Tai.mono_l k
    · intro y0 y1 y2 y3 y4
      unfold scale_Tai.j0
      repeat' first
      | (with_reducible exact ih0 _ _ _ _ _)
      | (with_reducible exact scale_Length.mono _ _ _)
      | (with_reducible exact scale_begins.mono _ _ _)
      | (with_reducible exact scale_expired.mono _ _ _)
      | (with_reducible exact LeO.refl _)
      | (with_reducible exact LeO.none _)
      | (with_reducible refine LeO.ite ?_ ?_)
      | (with_reducible refine LeO.bind ?_ (fun _ => ?_))
      | exact ih0 _ _ _ _ _
      | exact scale_Length.mono _ _ _
      | exact scale_begins.mono _ _ _
      | exact scale_expired.mono _ _ _
      | exact LeO.none _
      | refine LeO.ite ?_ ?_
      | refine LeO.bind ?_ (fun _ => ?_)
theorem scale_Tai.mono : ∀ a0 a1 a2 k, LeO (scale_Tai.f k a0 a1 a2) (scale_Tai.f (k + 1) a0 a1 a2) := by
  intro a0 a1 a2 k
  have ih0 := scale_Tai.mono_l k
  unfold scale_Tai.f
  repeat' first
      | (with_reducible exact ih0 _ _ _ _ _)
      | (with_reducible exact scale_Length.mono _ _ _)
      | (with_reducible exact scale_begins.mono _ _ _)
      | (with_reducible exact scale_expired.mono _ _ _)
      | (with_reducible exact LeO.refl _)
      | (with_reducible exact LeO.none _)
      | (with_reducible refine LeO.ite ?_ ?_)
      | (with_reducible refine LeO.bind ?_ (fun _ => ?_))
      | exact ih0 _ _ _ _ _
      | exact scale_Length.mono _ _ _
      | exact scale_begins.mono _ _ _
      | exact scale_expired.mono _ _ _
      | exact LeO.none _
      | refine LeO.ite ?_ ?_
      | refine LeO.bind ?_ (fun _ => ?_)
set_option maxHeartbeats 8000000 in
set_option maxRecDepth 100000 in
theorem scale_Tai.calls (k : Nat) (A0 : Option Addr) (c0 : Nat) (l0 : List (S45)) (a1 : Int) (a2 : Int) (r1 : Int) (r2 : Int) (w : World) (hr0 : Kd.C k45 w A0 l0.length l0) (hc0 : l0.length ≤ c0) (h : scale_Tai.f k l0 a1 a2 = some (r1, r2)) :
    Calls Try.prog 12 #[.slice A0 l0.length c0, .int .i64 a1, .int .i64 a2] w fun e w' => e = .returned (.tuple #[.int .i64 r1, .int .i64 r2]) ∧ Below w.heap.size w w' := by
  have HR0 := Aside0.mk hr0
  have HC0 := Aside0.mk hc0
  clear hr0 hc0
  have HB := Aside0.mk (Below.refl w.heap.size w)
  have H : ((scale_Length.f k l0 a1).bind fun bt192 => (if bt192.2 = 0 then (if a2 < 0 then (scale_Tai.j0 k l0 a1 a2 bt192.1 (decide (a2 < 0))) else (scale_Tai.j0 k l0 a1 a2 bt192.1 (decide (a2 > 86400)))) else (some (0, bt192.2)))) = some (r1, r2) := h
  clear h
  replace H := Option.bind_eq_some_iff.mp H
  obtain ⟨⟨t192, t193⟩, A40, H⟩ := H
  replace H : (if t193 = 0 then (if a2 < 0 then (scale_Tai.j0 k l0 a1 a2 t192 (decide (a2 < 0))) else (scale_Tai.j0 k l0 a1 a2 t192 (decide (a2 > 86400)))) else (some (0, t193))) = some (r1, r2) := H
  have A4 := Aside0.mk A40
  clear A40
  by_cases c5 : t193 = 0
  · rw [if_pos c5] at H
    have c5b0 : (t193 == 0) = true := beq_iff_eq.mpr c5
    have c5b1 : (t193 != 0) = false := bne_eq_false_iff_eq.mpr c5
    clear c5
    have HC6 := Aside0.mk H
    clear H
    go_enter Try.func12, Try.ntmps12
    go_upto_if 21 with (first | ((with_reducible refine gate_callee (f := 14) rfl ?_); refine goesL_ (some 14) rfl rfl Try.func14 (by kernel_rfl) rfl #[.slice A0 l0.length c0, .int .i64 a1] rfl (by (try simp only [List.map_toArray, List.map_cons, List.map_nil]); first | done | rfl | (simp only [List.length_drop, List.length_take]; rfl)) ?_; (with_reducible refine (scale_Length.calls k _ _ l0 a1 t192 t193 _ ?side1 ?side2 A4.out).mono ?_); (case side1 => repeat (first | exact HR0.out | (with_reducible refine Kd.C_alloc ?_ _) | (with_reducible refine Kd.C_drewN ?_ _) | (with_reducible refine Kd.C_drew ?_))); (case side2 => exact HC0.out); rintro e w7 ⟨rfl, hb⟩; refine ⟨_, rfl, ?_⟩; have n0_ := Aside0.mk (below_step (by repeat (first | (with_reducible first | exact HB.out | apply below_alloc | apply pw_below_drewN | apply below_drew1) | exact HB.out)) hb); clear HB; have HB := n0_; clear n0_; (try clear hb); (try clear hb2); (try clear hk); (try clear hi)))
    (try simp only [Act.put, List.setIfInBounds_toArray, List.set_cons_zero, List.set_cons_succ])
    go_cut [21] (fun v21 wc => ∃ (kq : Nat) (x21_5 : Bool), v21 = .bool x21_5 ∧ Aside0 (scale_Tai.j0 kq l0 a1 a2 t192 x21_5 = some (r1, r2)) ∧ Aside0 (kq ≤ k) ∧ Aside0 (Below w.heap.size w wc))
    case first =>
      have H := HC6.out
      clear HC6
      by_cases c8 : a2 < 0
      · rw [if_pos c8] at H
        have c8b0 : decide (a2 < 0) = true := decide_eq_true c8
        clear c8
        (first | rw [c8b0] | (simp only [i64_w, i32_w]; rw [c8b0]) | skip)
        have H' := Aside0.mk H
        clear H
        go_wp2
        go_meet
        case rel => exact ⟨_, (decide (a2 < 0)), (by first | rfl | (simp; done) | (simp [*]; done)), H', ⟨by first | omega | exact Nat.le_refl _⟩, ⟨by repeat (first | (with_reducible first | exact HB.out | apply below_alloc | apply pw_below_drewN | apply below_drew1) | exact HB.out)⟩⟩
      · rw [if_neg c8] at H
        have c8b0 : decide (a2 < 0) = false := decide_eq_false c8
        clear c8
        (first | rw [c8b0] | (simp only [i64_w, i32_w]; rw [c8b0]) | skip)
        have H' := Aside0.mk H
        clear H
        go_wp2
        go_meet
        case rel => exact ⟨_, (decide (a2 > 86400)), (by first | rfl | (simp; done) | (simp [*]; done)), H', ⟨by first | omega | exact Nat.le_refl _⟩, ⟨by repeat (first | (with_reducible first | exact HB.out | apply below_alloc | apply pw_below_drewN | apply below_drew1) | exact HB.out)⟩⟩
    case rest =>
      clear HC6
      try clear c1
      try clear p2
      try clear c5
      try clear c5b0
      try clear c5b1
      try clear c8
      try clear c8b0
      obtain ⟨kq, x21_5, rfl, HA, HJ5, HB⟩ := hcut
      cases kq with
      | zero => exact absurd HA.out (by simp [scale_Tai.j0])
      | succ kj5 =>
        have H := HA.out
        clear HA
        simp only [scale_Tai.j0] at H
        by_cases c9 : x21_5 = true
        · subst c9
          have H1 : (some (0, 9)) = some (r1, r2) := by rw [if_pos rfl] at H; exact H
          clear H
          have H := H1
          clear H1
          simp only [Option.some.injEq, Prod.mk.injEq] at H
          obtain ⟨rfl, rfl⟩ := H
          go_wp2
          go_ret2
          exact ⟨by first | rfl | (simp [errW_none, errW_some] <;> rfl) | (simp [*, errW_none, errW_some] <;> rfl), by repeat (first | (with_reducible first | exact HB.out | apply below_alloc | apply pw_below_drewN | apply below_drew1) | exact HB.out)⟩
        · replace c9 := Bool.eq_false_iff.mpr c9
          subst c9
          have H1 : (if a2 ≥ t192 then (some (0, 11)) else ((scale_begins.f kj5 l0 a1).bind fun t194 => ((scale_expired.f kj5 l0 (wrap64 (t194 + a2))).bind fun t195 => (if t195 = true then (some (0, 10)) else (some (wrap64 ((wrap64 (t194 + a2)) - 63072000), 0)))))) = some (r1, r2) := by rw [if_neg (show ¬ (false = true) by decide)] at H; exact H
          clear H
          have H := H1
          clear H1
          by_cases c10 : a2 ≥ t192
          · rw [if_pos c10] at H
            have c10b0 : decide (t192 ≤ a2) = true := decide_eq_true c10
            clear c10
            simp only [Option.some.injEq, Prod.mk.injEq] at H
            obtain ⟨rfl, rfl⟩ := H
            go_wp2
            go_ret2
            exact ⟨by first | rfl | (simp [errW_none, errW_some] <;> rfl) | (simp [*, errW_none, errW_some] <;> rfl), by repeat (first | (with_reducible first | exact HB.out | apply below_alloc | apply pw_below_drewN | apply below_drew1) | exact HB.out)⟩
          · rw [if_neg c10] at H
            have c10b0 : decide (t192 ≤ a2) = false := decide_eq_false c10
            clear c10
            replace H := Option.bind_eq_some_iff.mp H
            obtain ⟨t194, A110, H⟩ := H
            replace H : ((scale_expired.f kj5 l0 (wrap64 (t194 + a2))).bind fun t195 => (if t195 = true then (some (0, 10)) else (some (wrap64 ((wrap64 (t194 + a2)) - 63072000), 0)))) = some (r1, r2) := H
            have A11 := Aside0.mk A110
            clear A110
            replace H := Option.bind_eq_some_iff.mp H
            obtain ⟨t195, A120, H⟩ := H
            replace H : (if t195 = true then (some (0, 10)) else (some (wrap64 ((wrap64 (t194 + a2)) - 63072000), 0))) = some (r1, r2) := H
            have A12 := Aside0.mk A120
            clear A120
            by_cases c13 : t195 = true
            · subst c13
              have H1 : (some (0, 10)) = some (r1, r2) := by rw [if_pos rfl] at H; exact H
              clear H
              have H := H1
              clear H1
              simp only [Option.some.injEq, Prod.mk.injEq] at H
              obtain ⟨rfl, rfl⟩ := H
              go_wp2_with (first | ((with_reducible refine gate_callee (f := 32) rfl ?_); refine goesL_ (some 32) rfl rfl Try.func32 (by kernel_rfl) rfl #[.slice A0 l0.length c0, .int .i64 a1] rfl (by (try simp only [List.map_toArray, List.map_cons, List.map_nil]); first | done | rfl | (simp only [List.length_drop, List.length_take]; rfl)) ?_; (with_reducible refine (scale_begins.calls kj5 _ _ l0 a1 t194 _ ?side1 ?side2 A11.out).mono ?_); (case side1 => repeat (first | exact (Kd.C_below HR0.out HB.out) | (with_reducible refine Kd.C_alloc ?_ _) | (with_reducible refine Kd.C_drewN ?_ _) | (with_reducible refine Kd.C_drew ?_))); (case side2 => exact HC0.out); rintro e w14 ⟨rfl, hb⟩; refine ⟨_, rfl, ?_⟩; have n0_ := Aside0.mk (below_step (by repeat (first | (with_reducible first | exact HB.out | apply below_alloc | apply pw_below_drewN | apply below_drew1) | exact HB.out)) hb); clear HB; have HB := n0_; clear n0_; (try clear hb); (try clear hb2); (try clear hk); (try clear hi)) | ((with_reducible refine gate_callee (f := 26) rfl ?_); refine goesL_ (some 37) rfl rfl Try.func26 (by kernel_rfl) rfl #[.slice A0 l0.length c0, .int .i64 (wrap64 (t194 + a2))] rfl (by (try simp only [List.map_toArray, List.map_cons, List.map_nil]); first | done | rfl | (simp only [List.length_drop, List.length_take]; rfl)) ?_; (with_reducible refine (scale_expired.calls kj5 _ _ l0 (wrap64 (t194 + a2)) true _ ?side1 ?side2 A12.out).mono ?_); (case side1 => repeat (first | exact (Kd.C_below HR0.out HB.out) | (with_reducible refine Kd.C_alloc ?_ _) | (with_reducible refine Kd.C_drewN ?_ _) | (with_reducible refine Kd.C_drew ?_))); (case side2 => exact HC0.out); rintro e w15 ⟨rfl, hb⟩; refine ⟨_, rfl, ?_⟩; have n0_ := Aside0.mk (below_step (by repeat (first | (with_reducible first | exact HB.out | apply below_alloc | apply pw_below_drewN | apply below_drew1) | exact HB.out)) hb); clear HB; have HB := n0_; clear n0_; (try clear hb); (try clear hb2); (try clear hk); (try clear hi)))
              go_ret2
              exact ⟨by first | rfl | (simp [errW_none, errW_some] <;> rfl) | (simp [*, errW_none, errW_some] <;> rfl), by repeat (first | (with_reducible first | exact HB.out | apply below_alloc | apply pw_below_drewN | apply below_drew1) | exact HB.out)⟩
            · replace c13 := Bool.eq_false_iff.mpr c13
              subst c13
              have H1 : (some (wrap64 ((wrap64 (t194 + a2)) - 63072000), 0)) = some (r1, r2) := by rw [if_neg (show ¬ (false = true) by decide)] at H; exact H
              clear H
              have H := H1
              clear H1
              simp only [Option.some.injEq, Prod.mk.injEq] at H
              obtain ⟨rfl, rfl⟩ := H
              go_wp2_with (first | ((with_reducible refine gate_callee (f := 32) rfl ?_); refine goesL_ (some 32) rfl rfl Try.func32 (by kernel_rfl) rfl #[.slice A0 l0.length c0, .int .i64 a1] rfl (by (try simp only [List.map_toArray, List.map_cons, List.map_nil]); first | done | rfl | (simp only [List.length_drop, List.length_take]; rfl)) ?_; (with_reducible refine (scale_begins.calls kj5 _ _ l0 a1 t194 _ ?side1 ?side2 A11.out).mono ?_); (case side1 => repeat (first | exact (Kd.C_below HR0.out HB.out) | (with_reducible refine Kd.C_alloc ?_ _) | (with_reducible refine Kd.C_drewN ?_ _) | (with_reducible refine Kd.C_drew ?_))); (case side2 => exact HC0.out); rintro e w16 ⟨rfl, hb⟩; refine ⟨_, rfl, ?_⟩; have n0_ := Aside0.mk (below_step (by repeat (first | (with_reducible first | exact HB.out | apply below_alloc | apply pw_below_drewN | apply below_drew1) | exact HB.out)) hb); clear HB; have HB := n0_; clear n0_; (try clear hb); (try clear hb2); (try clear hk); (try clear hi)) | ((with_reducible refine gate_callee (f := 26) rfl ?_); refine goesL_ (some 37) rfl rfl Try.func26 (by kernel_rfl) rfl #[.slice A0 l0.length c0, .int .i64 (wrap64 (t194 + a2))] rfl (by (try simp only [List.map_toArray, List.map_cons, List.map_nil]); first | done | rfl | (simp only [List.length_drop, List.length_take]; rfl)) ?_; (with_reducible refine (scale_expired.calls kj5 _ _ l0 (wrap64 (t194 + a2)) false _ ?side1 ?side2 A12.out).mono ?_); (case side1 => repeat (first | exact (Kd.C_below HR0.out HB.out) | (with_reducible refine Kd.C_alloc ?_ _) | (with_reducible refine Kd.C_drewN ?_ _) | (with_reducible refine Kd.C_drew ?_))); (case side2 => exact HC0.out); rintro e w17 ⟨rfl, hb⟩; refine ⟨_, rfl, ?_⟩; have n0_ := Aside0.mk (below_step (by repeat (first | (with_reducible first | exact HB.out | apply below_alloc | apply pw_below_drewN | apply below_drew1) | exact HB.out)) hb); clear HB; have HB := n0_; clear n0_; (try clear hb); (try clear hb2); (try clear hk); (try clear hi)))
              go_ret2
              exact ⟨by first | rfl | (simp [errW_none, errW_some] <;> rfl) | (simp [*, errW_none, errW_some] <;> rfl), by repeat (first | (with_reducible first | exact HB.out | apply below_alloc | apply pw_below_drewN | apply below_drew1) | exact HB.out)⟩
  · rw [if_neg c5] at H
    have c5b0 : (t193 == 0) = false := beq_eq_false_iff_ne.mpr c5
    have c5b1 : (t193 != 0) = true := bne_iff_ne.mpr c5
    simp only [Option.some.injEq, Prod.mk.injEq] at H
    obtain ⟨rfl, rfl⟩ := H
    go_enter Try.func12, Try.ntmps12
    go_wp2_with (first | ((with_reducible refine gate_callee (f := 14) rfl ?_); refine goesL_ (some 14) rfl rfl Try.func14 (by kernel_rfl) rfl #[.slice A0 l0.length c0, .int .i64 a1] rfl (by (try simp only [List.map_toArray, List.map_cons, List.map_nil]); first | done | rfl | (simp only [List.length_drop, List.length_take]; rfl)) ?_; (with_reducible refine (scale_Length.calls k _ _ l0 a1 t192 t193 _ ?side1 ?side2 A4.out).mono ?_); (case side1 => repeat (first | exact HR0.out | (with_reducible refine Kd.C_alloc ?_ _) | (with_reducible refine Kd.C_drewN ?_ _) | (with_reducible refine Kd.C_drew ?_))); (case side2 => exact HC0.out); rintro e w18 ⟨rfl, hb⟩; refine ⟨_, rfl, ?_⟩; have n0_ := Aside0.mk (below_step (by repeat (first | (with_reducible first | exact HB.out | apply below_alloc | apply pw_below_drewN | apply below_drew1) | exact HB.out)) hb); clear HB; have HB := n0_; clear n0_; (try clear hb); (try clear hb2); (try clear hk); (try clear hi)))
    go_ret2
    exact ⟨by first | rfl | (simp [errW_none, errW_some] <;> rfl) | (simp [*, errW_none, errW_some] <;> rfl), by repeat (first | (with_reducible first | exact HB.out | apply below_alloc | apply pw_below_drewN | apply below_drew1) | exact HB.out)⟩

/-! ### scale_End: function 16 -/
def scale_End.f (k : Nat) (l0 : List (S45)) : Option (Int × Bool) := (record_Expiry.f k l0).bind fun bt196 => (if bt196.2 = true then ((scale_Known.f k l0).bind fun t198 => (if t198 = true then (some (wrap64 (bt196.1 - 63072000), true)) else (some (0, false)))) else (some (0, false)))
theorem scale_End.mono : ∀ a0 k, LeO (scale_End.f k a0) (scale_End.f (k + 1) a0) := by
  intro a0 k
  unfold scale_End.f
  repeat' first
      | (with_reducible exact record_Expiry.mono _ _)
      | (with_reducible exact scale_Known.mono _ _)
      | (with_reducible exact LeO.refl _)
      | (with_reducible exact LeO.none _)
      | (with_reducible refine LeO.ite ?_ ?_)
      | (with_reducible refine LeO.bind ?_ (fun _ => ?_))
      | exact record_Expiry.mono _ _
      | exact scale_Known.mono _ _
      | exact LeO.none _
      | refine LeO.ite ?_ ?_
      | refine LeO.bind ?_ (fun _ => ?_)
set_option maxHeartbeats 8000000 in
set_option maxRecDepth 100000 in
theorem scale_End.calls (k : Nat) (A0 : Option Addr) (c0 : Nat) (l0 : List (S45)) (r1 : Int) (r2 : Bool) (w : World) (hr0 : Kd.C k45 w A0 l0.length l0) (hc0 : l0.length ≤ c0) (h : scale_End.f k l0 = some (r1, r2)) :
    Calls Try.prog 16 #[.slice A0 l0.length c0] w fun e w' => e = .returned (.tuple #[.int .i64 r1, .bool r2]) ∧ Below w.heap.size w w' := by
  have HR0 := Aside0.mk hr0
  have HC0 := Aside0.mk hc0
  clear hr0 hc0
  have HB := Aside0.mk (Below.refl w.heap.size w)
  have H : ((record_Expiry.f k l0).bind fun bt196 => (if bt196.2 = true then ((scale_Known.f k l0).bind fun t198 => (if t198 = true then (some (wrap64 (bt196.1 - 63072000), true)) else (some (0, false)))) else (some (0, false)))) = some (r1, r2) := h
  clear h
  replace H := Option.bind_eq_some_iff.mp H
  obtain ⟨⟨t196, t197⟩, A20, H⟩ := H
  replace H : (if t197 = true then ((scale_Known.f k l0).bind fun t198 => (if t198 = true then (some (wrap64 (t196 - 63072000), true)) else (some (0, false)))) else (some (0, false))) = some (r1, r2) := H
  have A2 := Aside0.mk A20
  clear A20
  by_cases c3 : t197 = true
  · subst c3
    have H1 : ((scale_Known.f k l0).bind fun t198 => (if t198 = true then (some (wrap64 (t196 - 63072000), true)) else (some (0, false)))) = some (r1, r2) := by rw [if_pos rfl] at H; exact H
    clear H
    have H := H1
    clear H1
    replace H := Option.bind_eq_some_iff.mp H
    obtain ⟨t198, A40, H⟩ := H
    replace H : (if t198 = true then (some (wrap64 (t196 - 63072000), true)) else (some (0, false))) = some (r1, r2) := H
    have A4 := Aside0.mk A40
    clear A40
    by_cases c5 : t198 = true
    · subst c5
      have H1 : (some (wrap64 (t196 - 63072000), true)) = some (r1, r2) := by rw [if_pos rfl] at H; exact H
      clear H
      have H := H1
      clear H1
      simp only [Option.some.injEq, Prod.mk.injEq] at H
      obtain ⟨rfl, rfl⟩ := H
      go_enter Try.func16, Try.ntmps16
      go_wp2_with (first | ((with_reducible refine gate_callee (f := 36) rfl ?_); refine goesL_ (some 8) rfl rfl Try.func36 (by kernel_rfl) rfl #[.slice A0 l0.length c0] rfl (by (try simp only [List.map_toArray, List.map_cons, List.map_nil]); first | done | rfl | (simp only [List.length_drop, List.length_take]; rfl)) ?_; (with_reducible refine (record_Expiry.calls k _ _ l0 t196 true _ ?side1 ?side2 A2.out).mono ?_); (case side1 => repeat (first | exact HR0.out | (with_reducible refine Kd.C_alloc ?_ _) | (with_reducible refine Kd.C_drewN ?_ _) | (with_reducible refine Kd.C_drew ?_))); (case side2 => exact HC0.out); rintro e w6 ⟨rfl, hb⟩; refine ⟨_, rfl, ?_⟩; have n0_ := Aside0.mk (below_step (by repeat (first | (with_reducible first | exact HB.out | apply below_alloc | apply pw_below_drewN | apply below_drew1) | exact HB.out)) hb); clear HB; have HB := n0_; clear n0_; (try clear hb); (try clear hb2); (try clear hk); (try clear hi)) | (go_at_call 18; (with_reducible refine (scale_Known.calls k _ _ l0 true _ ?side1 ?side2 A4.out).mono ?_); (case side1 => repeat (first | exact (Kd.C_below HR0.out HB.out) | (with_reducible refine Kd.C_alloc ?_ _) | (with_reducible refine Kd.C_drewN ?_ _) | (with_reducible refine Kd.C_drew ?_))); (case side2 => exact HC0.out); rintro e w7 ⟨rfl, hb⟩; have n0_ := Aside0.mk (below_step (by repeat (first | (with_reducible first | exact HB.out | apply below_alloc | apply pw_below_drewN | apply below_drew1) | exact HB.out)) hb); clear HB; have HB := n0_; clear n0_; (try clear hb); (try clear hb2); (try clear hk); (try clear hi)))
      go_ret2
      exact ⟨by first | rfl | (simp [errW_none, errW_some] <;> rfl) | (simp [*, errW_none, errW_some] <;> rfl), by repeat (first | (with_reducible first | exact HB.out | apply below_alloc | apply pw_below_drewN | apply below_drew1) | exact HB.out)⟩
    · replace c5 := Bool.eq_false_iff.mpr c5
      subst c5
      have H1 : (some (0, false)) = some (r1, r2) := by rw [if_neg (show ¬ (false = true) by decide)] at H; exact H
      clear H
      have H := H1
      clear H1
      simp only [Option.some.injEq, Prod.mk.injEq] at H
      obtain ⟨rfl, rfl⟩ := H
      go_enter Try.func16, Try.ntmps16
      go_wp2_with (first | ((with_reducible refine gate_callee (f := 36) rfl ?_); refine goesL_ (some 8) rfl rfl Try.func36 (by kernel_rfl) rfl #[.slice A0 l0.length c0] rfl (by (try simp only [List.map_toArray, List.map_cons, List.map_nil]); first | done | rfl | (simp only [List.length_drop, List.length_take]; rfl)) ?_; (with_reducible refine (record_Expiry.calls k _ _ l0 t196 true _ ?side1 ?side2 A2.out).mono ?_); (case side1 => repeat (first | exact HR0.out | (with_reducible refine Kd.C_alloc ?_ _) | (with_reducible refine Kd.C_drewN ?_ _) | (with_reducible refine Kd.C_drew ?_))); (case side2 => exact HC0.out); rintro e w8 ⟨rfl, hb⟩; refine ⟨_, rfl, ?_⟩; have n0_ := Aside0.mk (below_step (by repeat (first | (with_reducible first | exact HB.out | apply below_alloc | apply pw_below_drewN | apply below_drew1) | exact HB.out)) hb); clear HB; have HB := n0_; clear n0_; (try clear hb); (try clear hb2); (try clear hk); (try clear hi)) | (go_at_call 18; (with_reducible refine (scale_Known.calls k _ _ l0 false _ ?side1 ?side2 A4.out).mono ?_); (case side1 => repeat (first | exact (Kd.C_below HR0.out HB.out) | (with_reducible refine Kd.C_alloc ?_ _) | (with_reducible refine Kd.C_drewN ?_ _) | (with_reducible refine Kd.C_drew ?_))); (case side2 => exact HC0.out); rintro e w9 ⟨rfl, hb⟩; have n0_ := Aside0.mk (below_step (by repeat (first | (with_reducible first | exact HB.out | apply below_alloc | apply pw_below_drewN | apply below_drew1) | exact HB.out)) hb); clear HB; have HB := n0_; clear n0_; (try clear hb); (try clear hb2); (try clear hk); (try clear hi)))
      go_ret2
      exact ⟨by first | rfl | (simp [errW_none, errW_some] <;> rfl) | (simp [*, errW_none, errW_some] <;> rfl), by repeat (first | (with_reducible first | exact HB.out | apply below_alloc | apply pw_below_drewN | apply below_drew1) | exact HB.out)⟩
  · replace c3 := Bool.eq_false_iff.mpr c3
    subst c3
    have H1 : (some (0, false)) = some (r1, r2) := by rw [if_neg (show ¬ (false = true) by decide)] at H; exact H
    clear H
    have H := H1
    clear H1
    simp only [Option.some.injEq, Prod.mk.injEq] at H
    obtain ⟨rfl, rfl⟩ := H
    go_enter Try.func16, Try.ntmps16
    go_wp2_with (first | ((with_reducible refine gate_callee (f := 36) rfl ?_); refine goesL_ (some 8) rfl rfl Try.func36 (by kernel_rfl) rfl #[.slice A0 l0.length c0] rfl (by (try simp only [List.map_toArray, List.map_cons, List.map_nil]); first | done | rfl | (simp only [List.length_drop, List.length_take]; rfl)) ?_; (with_reducible refine (record_Expiry.calls k _ _ l0 t196 false _ ?side1 ?side2 A2.out).mono ?_); (case side1 => repeat (first | exact HR0.out | (with_reducible refine Kd.C_alloc ?_ _) | (with_reducible refine Kd.C_drewN ?_ _) | (with_reducible refine Kd.C_drew ?_))); (case side2 => exact HC0.out); rintro e w10 ⟨rfl, hb⟩; refine ⟨_, rfl, ?_⟩; have n0_ := Aside0.mk (below_step (by repeat (first | (with_reducible first | exact HB.out | apply below_alloc | apply pw_below_drewN | apply below_drew1) | exact HB.out)) hb); clear HB; have HB := n0_; clear n0_; (try clear hb); (try clear hb2); (try clear hk); (try clear hi)))
    go_ret2
    exact ⟨by first | rfl | (simp [errW_none, errW_some] <;> rfl) | (simp [*, errW_none, errW_some] <;> rfl), by repeat (first | (with_reducible first | exact HB.out | apply below_alloc | apply pw_below_drewN | apply below_drew1) | exact HB.out)⟩

/-! ### epactlaw22_small: function 9 -/
def epactlaw22_small.f (k : Nat)  : Option (Bool) := (some (([(⟨78796800, 1⟩ : S45), (⟨126230400, 0⟩ : S45), (⟨200000000, 0⟩ : S45)] : List (S45)) : List (S45))).bind fun y199 => ((scale_Utc.f k y199 15724800).bind fun bt202 => ((scale_Utc.f k y199 15724801).bind fun bt205 => ((scale_Utc.f k y199 0).bind fun bt208 => ((scale_Utc.f k y199 (-1)).bind fun bt211 => ((scale_Utc.f k y199 136928000).bind fun bt214 => ((scale_Tai.f k y199 911 86400).bind fun bt217 => ((scale_Tai.f k y199 912 86400).bind fun bt219 => ((scale_Tai.f k y199 1460 86399).bind fun bt221 => ((scale_Tai.f k y199 1461 0).bind fun bt223 => ((scale_Length.f k y199 1460).bind fun bt225 => ((scale_End.f k y199).bind fun bt227 => ((scale_Utc.f k (([(⟨5, 1⟩ : S45)] : List (S45))) 1).bind fun bt232 => ((scale_Tai.f k ([] : List (S45)) 729 0).bind fun bt235 => (if bt202.1 = 911 then (if bt202.2.1 = 86400 then (if bt202.2.2 = 0 then (if bt205.1 = 912 then (if bt205.2.1 = 0 then (if bt205.2.2 = 0 then (if bt208.1 = 730 then (if bt208.2.1 = 0 then (if bt208.2.2 = 0 then (if bt211.2.2 = 9 then (if bt214.2.2 = 10 then (if bt217.1 = 15724800 then (if bt217.2 = 0 then (if bt219.2 = 11 then (if bt221.2 = 11 then (if bt223.1 = 63158400 then (if bt223.2 = 0 then (if bt225.1 = 86399 then (if bt225.2 = 0 then (if bt227.1 = 136928000 then (if bt227.2 = true then (if bt232.2.2 = 1 then (if bt235.2 = 9 then ((scale_Known.f k y199).bind fun t237 => (if t237 = true then ((scale_Known.f k ([] : List (S45))).bind fun t238 => (some t238)) else (none))) else (none)) else (none)) else (none)) else (none)) else (none)) else (none)) else (none)) else (none)) else (none)) else (none)) else (none)) else (none)) else (none)) else (none)) else (none)) else (none)) else (none)) else (none)) else (none)) else (none)) else (none)) else (none)) else (none)))))))))))))))
theorem epactlaw22_small.mono : ∀ k, LeO (epactlaw22_small.f k ) (epactlaw22_small.f (k + 1) ) := by
  intro  k
  unfold epactlaw22_small.f
  repeat' first
      | (with_reducible exact scale_End.mono _ _)
      | (with_reducible exact scale_Known.mono _ _)
      | (with_reducible exact scale_Length.mono _ _ _)
      | (with_reducible exact scale_Tai.mono _ _ _ _)
      | (with_reducible exact scale_Utc.mono _ _ _)
      | (with_reducible exact LeO.refl _)
      | (with_reducible exact LeO.none _)
      | (with_reducible refine LeO.ite ?_ ?_)
      | (with_reducible refine LeO.bind ?_ (fun _ => ?_))
      | exact scale_End.mono _ _
      | exact scale_Known.mono _ _
      | exact scale_Length.mono _ _ _
      | exact scale_Tai.mono _ _ _ _
      | exact scale_Utc.mono _ _ _
      | exact LeO.none _
      | refine LeO.ite ?_ ?_
      | refine LeO.bind ?_ (fun _ => ?_)
set_option maxHeartbeats 8000000 in
set_option maxRecDepth 100000 in
theorem epactlaw22_small.calls (k : Nat)  (r : Bool) (w : World) (h : epactlaw22_small.f k  = some r) :
    Calls Try.prog 9 #[] w fun e w' => e = .returned (.bool r) ∧ Below w.heap.size w w' := by
  have hu45 := Try.underlying45
  have HB := Aside0.mk (Below.refl w.heap.size w)
  have H : ((some (([(⟨78796800, 1⟩ : S45), (⟨126230400, 0⟩ : S45), (⟨200000000, 0⟩ : S45)] : List (S45)) : List (S45))).bind fun y199 => ((scale_Utc.f k y199 15724800).bind fun bt202 => ((scale_Utc.f k y199 15724801).bind fun bt205 => ((scale_Utc.f k y199 0).bind fun bt208 => ((scale_Utc.f k y199 (-1)).bind fun bt211 => ((scale_Utc.f k y199 136928000).bind fun bt214 => ((scale_Tai.f k y199 911 86400).bind fun bt217 => ((scale_Tai.f k y199 912 86400).bind fun bt219 => ((scale_Tai.f k y199 1460 86399).bind fun bt221 => ((scale_Tai.f k y199 1461 0).bind fun bt223 => ((scale_Length.f k y199 1460).bind fun bt225 => ((scale_End.f k y199).bind fun bt227 => ((scale_Utc.f k (([(⟨5, 1⟩ : S45)] : List (S45))) 1).bind fun bt232 => ((scale_Tai.f k ([] : List (S45)) 729 0).bind fun bt235 => (if bt202.1 = 911 then (if bt202.2.1 = 86400 then (if bt202.2.2 = 0 then (if bt205.1 = 912 then (if bt205.2.1 = 0 then (if bt205.2.2 = 0 then (if bt208.1 = 730 then (if bt208.2.1 = 0 then (if bt208.2.2 = 0 then (if bt211.2.2 = 9 then (if bt214.2.2 = 10 then (if bt217.1 = 15724800 then (if bt217.2 = 0 then (if bt219.2 = 11 then (if bt221.2 = 11 then (if bt223.1 = 63158400 then (if bt223.2 = 0 then (if bt225.1 = 86399 then (if bt225.2 = 0 then (if bt227.1 = 136928000 then (if bt227.2 = true then (if bt232.2.2 = 1 then (if bt235.2 = 9 then ((scale_Known.f k y199).bind fun t237 => (if t237 = true then ((scale_Known.f k ([] : List (S45))).bind fun t238 => (some t238)) else (none))) else (none)) else (none)) else (none)) else (none)) else (none)) else (none)) else (none)) else (none)) else (none)) else (none)) else (none)) else (none)) else (none)) else (none)) else (none)) else (none)) else (none)) else (none)) else (none)) else (none)) else (none)) else (none)) else (none)))))))))))))))) = some r := h
  clear h
  obtain ⟨y199, hy199⟩ : ∃ y_ : List (S45), y_ = (([(⟨78796800, 1⟩ : S45), (⟨126230400, 0⟩ : S45), (⟨200000000, 0⟩ : S45)] : List (S45))) := ⟨_, rfl⟩
  replace H : ((scale_Utc.f k y199 15724800).bind fun bt202 => ((scale_Utc.f k y199 15724801).bind fun bt205 => ((scale_Utc.f k y199 0).bind fun bt208 => ((scale_Utc.f k y199 (-1)).bind fun bt211 => ((scale_Utc.f k y199 136928000).bind fun bt214 => ((scale_Tai.f k y199 911 86400).bind fun bt217 => ((scale_Tai.f k y199 912 86400).bind fun bt219 => ((scale_Tai.f k y199 1460 86399).bind fun bt221 => ((scale_Tai.f k y199 1461 0).bind fun bt223 => ((scale_Length.f k y199 1460).bind fun bt225 => ((scale_End.f k y199).bind fun bt227 => ((scale_Utc.f k (([(⟨5, 1⟩ : S45)] : List (S45))) 1).bind fun bt232 => ((scale_Tai.f k ([] : List (S45)) 729 0).bind fun bt235 => (if bt202.1 = 911 then (if bt202.2.1 = 86400 then (if bt202.2.2 = 0 then (if bt205.1 = 912 then (if bt205.2.1 = 0 then (if bt205.2.2 = 0 then (if bt208.1 = 730 then (if bt208.2.1 = 0 then (if bt208.2.2 = 0 then (if bt211.2.2 = 9 then (if bt214.2.2 = 10 then (if bt217.1 = 15724800 then (if bt217.2 = 0 then (if bt219.2 = 11 then (if bt221.2 = 11 then (if bt223.1 = 63158400 then (if bt223.2 = 0 then (if bt225.1 = 86399 then (if bt225.2 = 0 then (if bt227.1 = 136928000 then (if bt227.2 = true then (if bt232.2.2 = 1 then (if bt235.2 = 9 then ((scale_Known.f k y199).bind fun t237 => (if t237 = true then ((scale_Known.f k ([] : List (S45))).bind fun t238 => (some t238)) else (none))) else (none)) else (none)) else (none)) else (none)) else (none)) else (none)) else (none)) else (none)) else (none)) else (none)) else (none)) else (none)) else (none)) else (none)) else (none)) else (none)) else (none)) else (none)) else (none)) else (none)) else (none)) else (none)) else (none))))))))))))))) = some r := by first | (rw [hy199]; with_reducible exact H) | (have H2_ := (Option.bind_some _ _).symm.trans H; rw [hy199]; with_reducible exact H2_) | (have H2_ := (Option.bind_some _ _).symm.trans H; with_reducible exact H2_) | with_reducible exact H | (rw [hy199]; exact H) | exact H
  have Ny199 := Aside0.mk hy199
  clear hy199
  replace H := Option.bind_eq_some_iff.mp H
  obtain ⟨⟨t202, t203, t204⟩, A10, H⟩ := H
  replace H : ((scale_Utc.f k y199 15724801).bind fun bt205 => ((scale_Utc.f k y199 0).bind fun bt208 => ((scale_Utc.f k y199 (-1)).bind fun bt211 => ((scale_Utc.f k y199 136928000).bind fun bt214 => ((scale_Tai.f k y199 911 86400).bind fun bt217 => ((scale_Tai.f k y199 912 86400).bind fun bt219 => ((scale_Tai.f k y199 1460 86399).bind fun bt221 => ((scale_Tai.f k y199 1461 0).bind fun bt223 => ((scale_Length.f k y199 1460).bind fun bt225 => ((scale_End.f k y199).bind fun bt227 => ((scale_Utc.f k (([(⟨5, 1⟩ : S45)] : List (S45))) 1).bind fun bt232 => ((scale_Tai.f k ([] : List (S45)) 729 0).bind fun bt235 => (if t202 = 911 then (if t203 = 86400 then (if t204 = 0 then (if bt205.1 = 912 then (if bt205.2.1 = 0 then (if bt205.2.2 = 0 then (if bt208.1 = 730 then (if bt208.2.1 = 0 then (if bt208.2.2 = 0 then (if bt211.2.2 = 9 then (if bt214.2.2 = 10 then (if bt217.1 = 15724800 then (if bt217.2 = 0 then (if bt219.2 = 11 then (if bt221.2 = 11 then (if bt223.1 = 63158400 then (if bt223.2 = 0 then (if bt225.1 = 86399 then (if bt225.2 = 0 then (if bt227.1 = 136928000 then (if bt227.2 = true then (if bt232.2.2 = 1 then (if bt235.2 = 9 then ((scale_Known.f k y199).bind fun t237 => (if t237 = true then ((scale_Known.f k ([] : List (S45))).bind fun t238 => (some t238)) else (none))) else (none)) else (none)) else (none)) else (none)) else (none)) else (none)) else (none)) else (none)) else (none)) else (none)) else (none)) else (none)) else (none)) else (none)) else (none)) else (none)) else (none)) else (none)) else (none)) else (none)) else (none)) else (none)) else (none)))))))))))))) = some r := H
  have A1 := Aside0.mk A10
  clear A10
  replace H := Option.bind_eq_some_iff.mp H
  obtain ⟨⟨t205, t206, t207⟩, A20, H⟩ := H
  replace H : ((scale_Utc.f k y199 0).bind fun bt208 => ((scale_Utc.f k y199 (-1)).bind fun bt211 => ((scale_Utc.f k y199 136928000).bind fun bt214 => ((scale_Tai.f k y199 911 86400).bind fun bt217 => ((scale_Tai.f k y199 912 86400).bind fun bt219 => ((scale_Tai.f k y199 1460 86399).bind fun bt221 => ((scale_Tai.f k y199 1461 0).bind fun bt223 => ((scale_Length.f k y199 1460).bind fun bt225 => ((scale_End.f k y199).bind fun bt227 => ((scale_Utc.f k (([(⟨5, 1⟩ : S45)] : List (S45))) 1).bind fun bt232 => ((scale_Tai.f k ([] : List (S45)) 729 0).bind fun bt235 => (if t202 = 911 then (if t203 = 86400 then (if t204 = 0 then (if t205 = 912 then (if t206 = 0 then (if t207 = 0 then (if bt208.1 = 730 then (if bt208.2.1 = 0 then (if bt208.2.2 = 0 then (if bt211.2.2 = 9 then (if bt214.2.2 = 10 then (if bt217.1 = 15724800 then (if bt217.2 = 0 then (if bt219.2 = 11 then (if bt221.2 = 11 then (if bt223.1 = 63158400 then (if bt223.2 = 0 then (if bt225.1 = 86399 then (if bt225.2 = 0 then (if bt227.1 = 136928000 then (if bt227.2 = true then (if bt232.2.2 = 1 then (if bt235.2 = 9 then ((scale_Known.f k y199).bind fun t237 => (if t237 = true then ((scale_Known.f k ([] : List (S45))).bind fun t238 => (some t238)) else (none))) else (none)) else (none)) else (none)) else (none)) else (none)) else (none)) else (none)) else (none)) else (none)) else (none)) else (none)) else (none)) else (none)) else (none)) else (none)) else (none)) else (none)) else (none)) else (none)) else (none)) else (none)) else (none)) else (none))))))))))))) = some r := H
  have A2 := Aside0.mk A20
  clear A20
  replace H := Option.bind_eq_some_iff.mp H
  obtain ⟨⟨t208, t209, t210⟩, A30, H⟩ := H
  replace H : ((scale_Utc.f k y199 (-1)).bind fun bt211 => ((scale_Utc.f k y199 136928000).bind fun bt214 => ((scale_Tai.f k y199 911 86400).bind fun bt217 => ((scale_Tai.f k y199 912 86400).bind fun bt219 => ((scale_Tai.f k y199 1460 86399).bind fun bt221 => ((scale_Tai.f k y199 1461 0).bind fun bt223 => ((scale_Length.f k y199 1460).bind fun bt225 => ((scale_End.f k y199).bind fun bt227 => ((scale_Utc.f k (([(⟨5, 1⟩ : S45)] : List (S45))) 1).bind fun bt232 => ((scale_Tai.f k ([] : List (S45)) 729 0).bind fun bt235 => (if t202 = 911 then (if t203 = 86400 then (if t204 = 0 then (if t205 = 912 then (if t206 = 0 then (if t207 = 0 then (if t208 = 730 then (if t209 = 0 then (if t210 = 0 then (if bt211.2.2 = 9 then (if bt214.2.2 = 10 then (if bt217.1 = 15724800 then (if bt217.2 = 0 then (if bt219.2 = 11 then (if bt221.2 = 11 then (if bt223.1 = 63158400 then (if bt223.2 = 0 then (if bt225.1 = 86399 then (if bt225.2 = 0 then (if bt227.1 = 136928000 then (if bt227.2 = true then (if bt232.2.2 = 1 then (if bt235.2 = 9 then ((scale_Known.f k y199).bind fun t237 => (if t237 = true then ((scale_Known.f k ([] : List (S45))).bind fun t238 => (some t238)) else (none))) else (none)) else (none)) else (none)) else (none)) else (none)) else (none)) else (none)) else (none)) else (none)) else (none)) else (none)) else (none)) else (none)) else (none)) else (none)) else (none)) else (none)) else (none)) else (none)) else (none)) else (none)) else (none)) else (none)))))))))))) = some r := H
  have A3 := Aside0.mk A30
  clear A30
  replace H := Option.bind_eq_some_iff.mp H
  obtain ⟨⟨t211, t212, t213⟩, A40, H⟩ := H
  replace H : ((scale_Utc.f k y199 136928000).bind fun bt214 => ((scale_Tai.f k y199 911 86400).bind fun bt217 => ((scale_Tai.f k y199 912 86400).bind fun bt219 => ((scale_Tai.f k y199 1460 86399).bind fun bt221 => ((scale_Tai.f k y199 1461 0).bind fun bt223 => ((scale_Length.f k y199 1460).bind fun bt225 => ((scale_End.f k y199).bind fun bt227 => ((scale_Utc.f k (([(⟨5, 1⟩ : S45)] : List (S45))) 1).bind fun bt232 => ((scale_Tai.f k ([] : List (S45)) 729 0).bind fun bt235 => (if t202 = 911 then (if t203 = 86400 then (if t204 = 0 then (if t205 = 912 then (if t206 = 0 then (if t207 = 0 then (if t208 = 730 then (if t209 = 0 then (if t210 = 0 then (if t213 = 9 then (if bt214.2.2 = 10 then (if bt217.1 = 15724800 then (if bt217.2 = 0 then (if bt219.2 = 11 then (if bt221.2 = 11 then (if bt223.1 = 63158400 then (if bt223.2 = 0 then (if bt225.1 = 86399 then (if bt225.2 = 0 then (if bt227.1 = 136928000 then (if bt227.2 = true then (if bt232.2.2 = 1 then (if bt235.2 = 9 then ((scale_Known.f k y199).bind fun t237 => (if t237 = true then ((scale_Known.f k ([] : List (S45))).bind fun t238 => (some t238)) else (none))) else (none)) else (none)) else (none)) else (none)) else (none)) else (none)) else (none)) else (none)) else (none)) else (none)) else (none)) else (none)) else (none)) else (none)) else (none)) else (none)) else (none)) else (none)) else (none)) else (none)) else (none)) else (none)) else (none))))))))))) = some r := H
  have A4 := Aside0.mk A40
  clear A40
  replace H := Option.bind_eq_some_iff.mp H
  obtain ⟨⟨t214, t215, t216⟩, A50, H⟩ := H
  replace H : ((scale_Tai.f k y199 911 86400).bind fun bt217 => ((scale_Tai.f k y199 912 86400).bind fun bt219 => ((scale_Tai.f k y199 1460 86399).bind fun bt221 => ((scale_Tai.f k y199 1461 0).bind fun bt223 => ((scale_Length.f k y199 1460).bind fun bt225 => ((scale_End.f k y199).bind fun bt227 => ((scale_Utc.f k (([(⟨5, 1⟩ : S45)] : List (S45))) 1).bind fun bt232 => ((scale_Tai.f k ([] : List (S45)) 729 0).bind fun bt235 => (if t202 = 911 then (if t203 = 86400 then (if t204 = 0 then (if t205 = 912 then (if t206 = 0 then (if t207 = 0 then (if t208 = 730 then (if t209 = 0 then (if t210 = 0 then (if t213 = 9 then (if t216 = 10 then (if bt217.1 = 15724800 then (if bt217.2 = 0 then (if bt219.2 = 11 then (if bt221.2 = 11 then (if bt223.1 = 63158400 then (if bt223.2 = 0 then (if bt225.1 = 86399 then (if bt225.2 = 0 then (if bt227.1 = 136928000 then (if bt227.2 = true then (if bt232.2.2 = 1 then (if bt235.2 = 9 then ((scale_Known.f k y199).bind fun t237 => (if t237 = true then ((scale_Known.f k ([] : List (S45))).bind fun t238 => (some t238)) else (none))) else (none)) else (none)) else (none)) else (none)) else (none)) else (none)) else (none)) else (none)) else (none)) else (none)) else (none)) else (none)) else (none)) else (none)) else (none)) else (none)) else (none)) else (none)) else (none)) else (none)) else (none)) else (none)) else (none)))))))))) = some r := H
  have A5 := Aside0.mk A50
  clear A50
  replace H := Option.bind_eq_some_iff.mp H
  obtain ⟨⟨t217, t218⟩, A60, H⟩ := H
  replace H : ((scale_Tai.f k y199 912 86400).bind fun bt219 => ((scale_Tai.f k y199 1460 86399).bind fun bt221 => ((scale_Tai.f k y199 1461 0).bind fun bt223 => ((scale_Length.f k y199 1460).bind fun bt225 => ((scale_End.f k y199).bind fun bt227 => ((scale_Utc.f k (([(⟨5, 1⟩ : S45)] : List (S45))) 1).bind fun bt232 => ((scale_Tai.f k ([] : List (S45)) 729 0).bind fun bt235 => (if t202 = 911 then (if t203 = 86400 then (if t204 = 0 then (if t205 = 912 then (if t206 = 0 then (if t207 = 0 then (if t208 = 730 then (if t209 = 0 then (if t210 = 0 then (if t213 = 9 then (if t216 = 10 then (if t217 = 15724800 then (if t218 = 0 then (if bt219.2 = 11 then (if bt221.2 = 11 then (if bt223.1 = 63158400 then (if bt223.2 = 0 then (if bt225.1 = 86399 then (if bt225.2 = 0 then (if bt227.1 = 136928000 then (if bt227.2 = true then (if bt232.2.2 = 1 then (if bt235.2 = 9 then ((scale_Known.f k y199).bind fun t237 => (if t237 = true then ((scale_Known.f k ([] : List (S45))).bind fun t238 => (some t238)) else (none))) else (none)) else (none)) else (none)) else (none)) else (none)) else (none)) else (none)) else (none)) else (none)) else (none)) else (none)) else (none)) else (none)) else (none)) else (none)) else (none)) else (none)) else (none)) else (none)) else (none)) else (none)) else (none)) else (none))))))))) = some r := H
  have A6 := Aside0.mk A60
  clear A60
  replace H := Option.bind_eq_some_iff.mp H
  obtain ⟨⟨t219, t220⟩, A70, H⟩ := H
  replace H : ((scale_Tai.f k y199 1460 86399).bind fun bt221 => ((scale_Tai.f k y199 1461 0).bind fun bt223 => ((scale_Length.f k y199 1460).bind fun bt225 => ((scale_End.f k y199).bind fun bt227 => ((scale_Utc.f k (([(⟨5, 1⟩ : S45)] : List (S45))) 1).bind fun bt232 => ((scale_Tai.f k ([] : List (S45)) 729 0).bind fun bt235 => (if t202 = 911 then (if t203 = 86400 then (if t204 = 0 then (if t205 = 912 then (if t206 = 0 then (if t207 = 0 then (if t208 = 730 then (if t209 = 0 then (if t210 = 0 then (if t213 = 9 then (if t216 = 10 then (if t217 = 15724800 then (if t218 = 0 then (if t220 = 11 then (if bt221.2 = 11 then (if bt223.1 = 63158400 then (if bt223.2 = 0 then (if bt225.1 = 86399 then (if bt225.2 = 0 then (if bt227.1 = 136928000 then (if bt227.2 = true then (if bt232.2.2 = 1 then (if bt235.2 = 9 then ((scale_Known.f k y199).bind fun t237 => (if t237 = true then ((scale_Known.f k ([] : List (S45))).bind fun t238 => (some t238)) else (none))) else (none)) else (none)) else (none)) else (none)) else (none)) else (none)) else (none)) else (none)) else (none)) else (none)) else (none)) else (none)) else (none)) else (none)) else (none)) else (none)) else (none)) else (none)) else (none)) else (none)) else (none)) else (none)) else (none)))))))) = some r := H
  have A7 := Aside0.mk A70
  clear A70
  replace H := Option.bind_eq_some_iff.mp H
  obtain ⟨⟨t221, t222⟩, A80, H⟩ := H
  replace H : ((scale_Tai.f k y199 1461 0).bind fun bt223 => ((scale_Length.f k y199 1460).bind fun bt225 => ((scale_End.f k y199).bind fun bt227 => ((scale_Utc.f k (([(⟨5, 1⟩ : S45)] : List (S45))) 1).bind fun bt232 => ((scale_Tai.f k ([] : List (S45)) 729 0).bind fun bt235 => (if t202 = 911 then (if t203 = 86400 then (if t204 = 0 then (if t205 = 912 then (if t206 = 0 then (if t207 = 0 then (if t208 = 730 then (if t209 = 0 then (if t210 = 0 then (if t213 = 9 then (if t216 = 10 then (if t217 = 15724800 then (if t218 = 0 then (if t220 = 11 then (if t222 = 11 then (if bt223.1 = 63158400 then (if bt223.2 = 0 then (if bt225.1 = 86399 then (if bt225.2 = 0 then (if bt227.1 = 136928000 then (if bt227.2 = true then (if bt232.2.2 = 1 then (if bt235.2 = 9 then ((scale_Known.f k y199).bind fun t237 => (if t237 = true then ((scale_Known.f k ([] : List (S45))).bind fun t238 => (some t238)) else (none))) else (none)) else (none)) else (none)) else (none)) else (none)) else (none)) else (none)) else (none)) else (none)) else (none)) else (none)) else (none)) else (none)) else (none)) else (none)) else (none)) else (none)) else (none)) else (none)) else (none)) else (none)) else (none)) else (none))))))) = some r := H
  have A8 := Aside0.mk A80
  clear A80
  replace H := Option.bind_eq_some_iff.mp H
  obtain ⟨⟨t223, t224⟩, A90, H⟩ := H
  replace H : ((scale_Length.f k y199 1460).bind fun bt225 => ((scale_End.f k y199).bind fun bt227 => ((scale_Utc.f k (([(⟨5, 1⟩ : S45)] : List (S45))) 1).bind fun bt232 => ((scale_Tai.f k ([] : List (S45)) 729 0).bind fun bt235 => (if t202 = 911 then (if t203 = 86400 then (if t204 = 0 then (if t205 = 912 then (if t206 = 0 then (if t207 = 0 then (if t208 = 730 then (if t209 = 0 then (if t210 = 0 then (if t213 = 9 then (if t216 = 10 then (if t217 = 15724800 then (if t218 = 0 then (if t220 = 11 then (if t222 = 11 then (if t223 = 63158400 then (if t224 = 0 then (if bt225.1 = 86399 then (if bt225.2 = 0 then (if bt227.1 = 136928000 then (if bt227.2 = true then (if bt232.2.2 = 1 then (if bt235.2 = 9 then ((scale_Known.f k y199).bind fun t237 => (if t237 = true then ((scale_Known.f k ([] : List (S45))).bind fun t238 => (some t238)) else (none))) else (none)) else (none)) else (none)) else (none)) else (none)) else (none)) else (none)) else (none)) else (none)) else (none)) else (none)) else (none)) else (none)) else (none)) else (none)) else (none)) else (none)) else (none)) else (none)) else (none)) else (none)) else (none)) else (none)))))) = some r := H
  have A9 := Aside0.mk A90
  clear A90
  replace H := Option.bind_eq_some_iff.mp H
  obtain ⟨⟨t225, t226⟩, A100, H⟩ := H
  replace H : ((scale_End.f k y199).bind fun bt227 => ((scale_Utc.f k (([(⟨5, 1⟩ : S45)] : List (S45))) 1).bind fun bt232 => ((scale_Tai.f k ([] : List (S45)) 729 0).bind fun bt235 => (if t202 = 911 then (if t203 = 86400 then (if t204 = 0 then (if t205 = 912 then (if t206 = 0 then (if t207 = 0 then (if t208 = 730 then (if t209 = 0 then (if t210 = 0 then (if t213 = 9 then (if t216 = 10 then (if t217 = 15724800 then (if t218 = 0 then (if t220 = 11 then (if t222 = 11 then (if t223 = 63158400 then (if t224 = 0 then (if t225 = 86399 then (if t226 = 0 then (if bt227.1 = 136928000 then (if bt227.2 = true then (if bt232.2.2 = 1 then (if bt235.2 = 9 then ((scale_Known.f k y199).bind fun t237 => (if t237 = true then ((scale_Known.f k ([] : List (S45))).bind fun t238 => (some t238)) else (none))) else (none)) else (none)) else (none)) else (none)) else (none)) else (none)) else (none)) else (none)) else (none)) else (none)) else (none)) else (none)) else (none)) else (none)) else (none)) else (none)) else (none)) else (none)) else (none)) else (none)) else (none)) else (none)) else (none))))) = some r := H
  have A10 := Aside0.mk A100
  clear A100
  replace H := Option.bind_eq_some_iff.mp H
  obtain ⟨⟨t227, t228⟩, A110, H⟩ := H
  replace H : ((scale_Utc.f k (([(⟨5, 1⟩ : S45)] : List (S45))) 1).bind fun bt232 => ((scale_Tai.f k ([] : List (S45)) 729 0).bind fun bt235 => (if t202 = 911 then (if t203 = 86400 then (if t204 = 0 then (if t205 = 912 then (if t206 = 0 then (if t207 = 0 then (if t208 = 730 then (if t209 = 0 then (if t210 = 0 then (if t213 = 9 then (if t216 = 10 then (if t217 = 15724800 then (if t218 = 0 then (if t220 = 11 then (if t222 = 11 then (if t223 = 63158400 then (if t224 = 0 then (if t225 = 86399 then (if t226 = 0 then (if t227 = 136928000 then (if t228 = true then (if bt232.2.2 = 1 then (if bt235.2 = 9 then ((scale_Known.f k y199).bind fun t237 => (if t237 = true then ((scale_Known.f k ([] : List (S45))).bind fun t238 => (some t238)) else (none))) else (none)) else (none)) else (none)) else (none)) else (none)) else (none)) else (none)) else (none)) else (none)) else (none)) else (none)) else (none)) else (none)) else (none)) else (none)) else (none)) else (none)) else (none)) else (none)) else (none)) else (none)) else (none)) else (none)))) = some r := H
  have A11 := Aside0.mk A110
  clear A110
  obtain ⟨y229, hy229⟩ : ∃ y_ : List (S45), y_ = (([(⟨5, 1⟩ : S45)] : List (S45))) := ⟨_, rfl⟩
  replace H : ((scale_Utc.f k y229 1).bind fun bt232 => ((scale_Tai.f k ([] : List (S45)) 729 0).bind fun bt235 => (if t202 = 911 then (if t203 = 86400 then (if t204 = 0 then (if t205 = 912 then (if t206 = 0 then (if t207 = 0 then (if t208 = 730 then (if t209 = 0 then (if t210 = 0 then (if t213 = 9 then (if t216 = 10 then (if t217 = 15724800 then (if t218 = 0 then (if t220 = 11 then (if t222 = 11 then (if t223 = 63158400 then (if t224 = 0 then (if t225 = 86399 then (if t226 = 0 then (if t227 = 136928000 then (if t228 = true then (if bt232.2.2 = 1 then (if bt235.2 = 9 then ((scale_Known.f k y199).bind fun t237 => (if t237 = true then ((scale_Known.f k ([] : List (S45))).bind fun t238 => (some t238)) else (none))) else (none)) else (none)) else (none)) else (none)) else (none)) else (none)) else (none)) else (none)) else (none)) else (none)) else (none)) else (none)) else (none)) else (none)) else (none)) else (none)) else (none)) else (none)) else (none)) else (none)) else (none)) else (none)) else (none)))) = some r := by first | (rw [hy229]; with_reducible exact H) | (have H2_ := (Option.bind_some _ _).symm.trans H; rw [hy229]; with_reducible exact H2_) | (have H2_ := (Option.bind_some _ _).symm.trans H; with_reducible exact H2_) | with_reducible exact H | (rw [hy229]; exact H) | exact H
  have Ny229 := Aside0.mk hy229
  clear hy229
  replace H := Option.bind_eq_some_iff.mp H
  obtain ⟨⟨t232, t233, t234⟩, A120, H⟩ := H
  replace H : ((scale_Tai.f k ([] : List (S45)) 729 0).bind fun bt235 => (if t202 = 911 then (if t203 = 86400 then (if t204 = 0 then (if t205 = 912 then (if t206 = 0 then (if t207 = 0 then (if t208 = 730 then (if t209 = 0 then (if t210 = 0 then (if t213 = 9 then (if t216 = 10 then (if t217 = 15724800 then (if t218 = 0 then (if t220 = 11 then (if t222 = 11 then (if t223 = 63158400 then (if t224 = 0 then (if t225 = 86399 then (if t226 = 0 then (if t227 = 136928000 then (if t228 = true then (if t234 = 1 then (if bt235.2 = 9 then ((scale_Known.f k y199).bind fun t237 => (if t237 = true then ((scale_Known.f k ([] : List (S45))).bind fun t238 => (some t238)) else (none))) else (none)) else (none)) else (none)) else (none)) else (none)) else (none)) else (none)) else (none)) else (none)) else (none)) else (none)) else (none)) else (none)) else (none)) else (none)) else (none)) else (none)) else (none)) else (none)) else (none)) else (none)) else (none)) else (none))) = some r := H
  have A12 := Aside0.mk A120
  clear A120
  replace H := Option.bind_eq_some_iff.mp H
  obtain ⟨⟨t235, t236⟩, A130, H⟩ := H
  replace H : (if t202 = 911 then (if t203 = 86400 then (if t204 = 0 then (if t205 = 912 then (if t206 = 0 then (if t207 = 0 then (if t208 = 730 then (if t209 = 0 then (if t210 = 0 then (if t213 = 9 then (if t216 = 10 then (if t217 = 15724800 then (if t218 = 0 then (if t220 = 11 then (if t222 = 11 then (if t223 = 63158400 then (if t224 = 0 then (if t225 = 86399 then (if t226 = 0 then (if t227 = 136928000 then (if t228 = true then (if t234 = 1 then (if t236 = 9 then ((scale_Known.f k y199).bind fun t237 => (if t237 = true then ((scale_Known.f k ([] : List (S45))).bind fun t238 => (some t238)) else (none))) else (none)) else (none)) else (none)) else (none)) else (none)) else (none)) else (none)) else (none)) else (none)) else (none)) else (none)) else (none)) else (none)) else (none)) else (none)) else (none)) else (none)) else (none)) else (none)) else (none)) else (none)) else (none)) else (none)) = some r := H
  have A13 := Aside0.mk A130
  clear A130
  by_cases c14 : t202 = 911
  · rw [if_pos c14] at H
    have c14b0 : (t202 == 911) = true := beq_iff_eq.mpr c14
    have c14b1 : (t202 != 911) = false := bne_eq_false_iff_eq.mpr c14
    clear c14
    by_cases c15 : t203 = 86400
    · rw [if_pos c15] at H
      have c15b0 : (t203 == 86400) = true := beq_iff_eq.mpr c15
      have c15b1 : (t203 != 86400) = false := bne_eq_false_iff_eq.mpr c15
      clear c15
      by_cases c16 : t204 = 0
      · rw [if_pos c16] at H
        have c16b0 : (t204 == 0) = true := beq_iff_eq.mpr c16
        have c16b1 : (t204 != 0) = false := bne_eq_false_iff_eq.mpr c16
        clear c16
        by_cases c17 : t205 = 912
        · rw [if_pos c17] at H
          have c17b0 : (t205 == 912) = true := beq_iff_eq.mpr c17
          have c17b1 : (t205 != 912) = false := bne_eq_false_iff_eq.mpr c17
          clear c17
          by_cases c18 : t206 = 0
          · rw [if_pos c18] at H
            have c18b0 : (t206 == 0) = true := beq_iff_eq.mpr c18
            have c18b1 : (t206 != 0) = false := bne_eq_false_iff_eq.mpr c18
            clear c18
            by_cases c19 : t207 = 0
            · rw [if_pos c19] at H
              have c19b0 : (t207 == 0) = true := beq_iff_eq.mpr c19
              have c19b1 : (t207 != 0) = false := bne_eq_false_iff_eq.mpr c19
              clear c19
              by_cases c20 : t208 = 730
              · rw [if_pos c20] at H
                have c20b0 : (t208 == 730) = true := beq_iff_eq.mpr c20
                have c20b1 : (t208 != 730) = false := bne_eq_false_iff_eq.mpr c20
                clear c20
                by_cases c21 : t209 = 0
                · rw [if_pos c21] at H
                  have c21b0 : (t209 == 0) = true := beq_iff_eq.mpr c21
                  have c21b1 : (t209 != 0) = false := bne_eq_false_iff_eq.mpr c21
                  clear c21
                  by_cases c22 : t210 = 0
                  · rw [if_pos c22] at H
                    have c22b0 : (t210 == 0) = true := beq_iff_eq.mpr c22
                    have c22b1 : (t210 != 0) = false := bne_eq_false_iff_eq.mpr c22
                    clear c22
                    by_cases c23 : t213 = 9
                    · rw [if_pos c23] at H
                      have c23b0 : (t213 == 9) = true := beq_iff_eq.mpr c23
                      have c23b1 : (t213 != 9) = false := bne_eq_false_iff_eq.mpr c23
                      clear c23
                      by_cases c24 : t216 = 10
                      · rw [if_pos c24] at H
                        have c24b0 : (t216 == 10) = true := beq_iff_eq.mpr c24
                        have c24b1 : (t216 != 10) = false := bne_eq_false_iff_eq.mpr c24
                        clear c24
                        by_cases c25 : t217 = 15724800
                        · rw [if_pos c25] at H
                          have c25b0 : (t217 == 15724800) = true := beq_iff_eq.mpr c25
                          have c25b1 : (t217 != 15724800) = false := bne_eq_false_iff_eq.mpr c25
                          clear c25
                          by_cases c26 : t218 = 0
                          · rw [if_pos c26] at H
                            have c26b0 : (t218 == 0) = true := beq_iff_eq.mpr c26
                            have c26b1 : (t218 != 0) = false := bne_eq_false_iff_eq.mpr c26
                            clear c26
                            by_cases c27 : t220 = 11
                            · rw [if_pos c27] at H
                              have c27b0 : (t220 == 11) = true := beq_iff_eq.mpr c27
                              have c27b1 : (t220 != 11) = false := bne_eq_false_iff_eq.mpr c27
                              clear c27
                              by_cases c28 : t222 = 11
                              · rw [if_pos c28] at H
                                have c28b0 : (t222 == 11) = true := beq_iff_eq.mpr c28
                                have c28b1 : (t222 != 11) = false := bne_eq_false_iff_eq.mpr c28
                                clear c28
                                by_cases c29 : t223 = 63158400
                                · rw [if_pos c29] at H
                                  have c29b0 : (t223 == 63158400) = true := beq_iff_eq.mpr c29
                                  have c29b1 : (t223 != 63158400) = false := bne_eq_false_iff_eq.mpr c29
                                  clear c29
                                  by_cases c30 : t224 = 0
                                  · rw [if_pos c30] at H
                                    have c30b0 : (t224 == 0) = true := beq_iff_eq.mpr c30
                                    have c30b1 : (t224 != 0) = false := bne_eq_false_iff_eq.mpr c30
                                    clear c30
                                    by_cases c31 : t225 = 86399
                                    · rw [if_pos c31] at H
                                      have c31b0 : (t225 == 86399) = true := beq_iff_eq.mpr c31
                                      have c31b1 : (t225 != 86399) = false := bne_eq_false_iff_eq.mpr c31
                                      clear c31
                                      by_cases c32 : t226 = 0
                                      · rw [if_pos c32] at H
                                        have c32b0 : (t226 == 0) = true := beq_iff_eq.mpr c32
                                        have c32b1 : (t226 != 0) = false := bne_eq_false_iff_eq.mpr c32
                                        clear c32
                                        by_cases c33 : t227 = 136928000
                                        · rw [if_pos c33] at H
                                          have c33b0 : (t227 == 136928000) = true := beq_iff_eq.mpr c33
                                          have c33b1 : (t227 != 136928000) = false := bne_eq_false_iff_eq.mpr c33
                                          clear c33
                                          by_cases c34 : t228 = true
                                          · subst c34
                                            have H1 : (if t234 = 1 then (if t236 = 9 then ((scale_Known.f k y199).bind fun t237 => (if t237 = true then ((scale_Known.f k ([] : List (S45))).bind fun t238 => (some t238)) else (none))) else (none)) else (none)) = some r := by rw [if_pos rfl] at H; exact H
                                            clear H
                                            have H := H1
                                            clear H1
                                            by_cases c35 : t234 = 1
                                            · rw [if_pos c35] at H
                                              have c35b0 : (t234 == 1) = true := beq_iff_eq.mpr c35
                                              have c35b1 : (t234 != 1) = false := bne_eq_false_iff_eq.mpr c35
                                              clear c35
                                              by_cases c36 : t236 = 9
                                              · rw [if_pos c36] at H
                                                have c36b0 : (t236 == 9) = true := beq_iff_eq.mpr c36
                                                have c36b1 : (t236 != 9) = false := bne_eq_false_iff_eq.mpr c36
                                                clear c36
                                                replace H := Option.bind_eq_some_iff.mp H
                                                obtain ⟨t237, A370, H⟩ := H
                                                replace H : (if t237 = true then ((scale_Known.f k ([] : List (S45))).bind fun t238 => (some t238)) else (none)) = some r := H
                                                have A37 := Aside0.mk A370
                                                clear A370
                                                by_cases c38 : t237 = true
                                                · subst c38
                                                  have H1 : ((scale_Known.f k ([] : List (S45))).bind fun t238 => (some t238)) = some r := by rw [if_pos rfl] at H; exact H
                                                  clear H
                                                  have H := H1
                                                  clear H1
                                                  replace H := Option.bind_eq_some_iff.mp H
                                                  obtain ⟨t238, A390, H⟩ := H
                                                  replace H : (some t238) = some r := H
                                                  have A39 := Aside0.mk A390
                                                  clear A390
                                                  obtain rfl := Option.some.inj H
                                                  go_enter Try.func9, Try.ntmps9
                                                  go_wp2_with (first | ((with_reducible refine gate_dst (N := 37) rfl ?_); refine Kd.R_lit k45 _ 45 ?hg (N := 37) ?hd (xs := ([(⟨78796800, 1⟩ : S45), (⟨126230400, 0⟩ : S45), (⟨200000000, 0⟩ : S45)] : List (S45))) (inner := [.int .i64 78796800, .int .i64 1, .int .i64 126230400, .int .i64 0, .int .i64 200000000, .int .i64 0]) (ok := fun _ => True) (okp := fun _ => True) ?hr ?hp (fun _ hk => hk) trivial (Below.refl _ _) (Nat.le_refl _) (by simp) ?_; (case hd => rfl); (case hg => rfl); (case hr => first | (go_simp; done) | (go_simp; rfl)); (case hp => exact (Reps.c2 (show Kd.M k45 _ _ _ (⟨78796800, 1⟩ : S45) [.int .i64 78796800, .int .i64 1] from (k45_mkM _ _ _ (⟨78796800, 1⟩ : S45) )) (Reps.c2 (show Kd.M k45 _ _ _ (⟨126230400, 0⟩ : S45) [.int .i64 126230400, .int .i64 0] from (k45_mkM _ _ _ (⟨126230400, 0⟩ : S45) )) (Reps.c2 (show Kd.M k45 _ _ _ (⟨200000000, 0⟩ : S45) [.int .i64 200000000, .int .i64 0] from (k45_mkM _ _ _ (⟨200000000, 0⟩ : S45) )) (Reps.none _ _))))); intro v200 w40 ho41 hb hg_ hnew_; clear hg_ hnew_; (first | rw [← Ny199.out] at ho41 | (simp only [Int.reduceToNat] at ho41; rw [← Ny199.out] at ho41)); have n0_ := Aside0.mk (Kd.R_lower ho41 (below_size (by repeat (first | (with_reducible first | exact HB.out | apply below_alloc | apply pw_below_drewN | apply below_drew1) | exact HB.out)))); have n1_ := Aside0.mk (below_step (by repeat (first | (with_reducible first | exact HB.out | apply below_alloc | apply pw_below_drewN | apply below_drew1) | exact HB.out)) hb); clear HB; have HO201 := n0_; have HB := n1_; clear n0_ n1_; clear hb ho41; obtain ⟨Ao42, co42, eo42⟩ := Kd.R_slice HO201.out; subst eo42) | ((with_reducible refine gate_callee (f := 10) rfl ?_); refine goesL_ (some 40) rfl rfl Try.func10 (by kernel_rfl) rfl #[.slice Ao42 y199.length co42, .int .i64 15724800] rfl (by (try simp only [List.map_toArray, List.map_cons, List.map_nil]); first | done | rfl | (simp only [List.length_drop, List.length_take]; rfl)) ?_; (with_reducible refine (scale_Utc.calls k _ _ y199 15724800 t202 t203 t204 _ ?side1 ?side2 A1.out).mono ?_); (case side1 => repeat (first | exact (Kd.R_reads' HO201.out).2.2 | (with_reducible refine Kd.C_alloc ?_ _) | (with_reducible refine Kd.C_drewN ?_ _) | (with_reducible refine Kd.C_drew ?_))); (case side2 => exact (Kd.R_reads' HO201.out).2.1); rintro e w43 ⟨rfl, hb⟩; refine ⟨_, rfl, ?_⟩; have n0_ := Aside0.mk (Kd.R_below (by (with_reducible repeat (first | apply Kd.R_alloc | apply Kd.R_drewN | apply Kd.R_drew)); exact HO201.out) hb); have n1_ := Aside0.mk (below_step (by repeat (first | (with_reducible first | exact HB.out | apply below_alloc | apply pw_below_drewN | apply below_drew1) | exact HB.out)) hb); clear HO201; clear HB; have HO201 := n0_; have HB := n1_; clear n0_ n1_; (try clear hb); (try clear hb2); (try clear hk); (try clear hi)) | ((with_reducible refine gate_callee (f := 10) rfl ?_); refine goesL_ (some 46) rfl rfl Try.func10 (by kernel_rfl) rfl #[.slice Ao42 y199.length co42, .int .i64 15724801] rfl (by (try simp only [List.map_toArray, List.map_cons, List.map_nil]); first | done | rfl | (simp only [List.length_drop, List.length_take]; rfl)) ?_; (with_reducible refine (scale_Utc.calls k _ _ y199 15724801 t205 t206 t207 _ ?side1 ?side2 A2.out).mono ?_); (case side1 => repeat (first | exact (Kd.R_reads' HO201.out).2.2 | (with_reducible refine Kd.C_alloc ?_ _) | (with_reducible refine Kd.C_drewN ?_ _) | (with_reducible refine Kd.C_drew ?_))); (case side2 => exact (Kd.R_reads' HO201.out).2.1); rintro e w44 ⟨rfl, hb⟩; refine ⟨_, rfl, ?_⟩; have n0_ := Aside0.mk (Kd.R_below (by (with_reducible repeat (first | apply Kd.R_alloc | apply Kd.R_drewN | apply Kd.R_drew)); exact HO201.out) hb); have n1_ := Aside0.mk (below_step (by repeat (first | (with_reducible first | exact HB.out | apply below_alloc | apply pw_below_drewN | apply below_drew1) | exact HB.out)) hb); clear HO201; clear HB; have HO201 := n0_; have HB := n1_; clear n0_ n1_; (try clear hb); (try clear hb2); (try clear hk); (try clear hi)) | ((with_reducible refine gate_callee (f := 10) rfl ?_); refine goesL_ (some 52) rfl rfl Try.func10 (by kernel_rfl) rfl #[.slice Ao42 y199.length co42, .int .i64 0] rfl (by (try simp only [List.map_toArray, List.map_cons, List.map_nil]); first | done | rfl | (simp only [List.length_drop, List.length_take]; rfl)) ?_; (with_reducible refine (scale_Utc.calls k _ _ y199 0 t208 t209 t210 _ ?side1 ?side2 A3.out).mono ?_); (case side1 => repeat (first | exact (Kd.R_reads' HO201.out).2.2 | (with_reducible refine Kd.C_alloc ?_ _) | (with_reducible refine Kd.C_drewN ?_ _) | (with_reducible refine Kd.C_drew ?_))); (case side2 => exact (Kd.R_reads' HO201.out).2.1); rintro e w45 ⟨rfl, hb⟩; refine ⟨_, rfl, ?_⟩; have n0_ := Aside0.mk (Kd.R_below (by (with_reducible repeat (first | apply Kd.R_alloc | apply Kd.R_drewN | apply Kd.R_drew)); exact HO201.out) hb); have n1_ := Aside0.mk (below_step (by repeat (first | (with_reducible first | exact HB.out | apply below_alloc | apply pw_below_drewN | apply below_drew1) | exact HB.out)) hb); clear HO201; clear HB; have HO201 := n0_; have HB := n1_; clear n0_ n1_; (try clear hb); (try clear hb2); (try clear hk); (try clear hi)) | ((with_reducible refine gate_callee (f := 10) rfl ?_); refine goesL_ (some 58) rfl rfl Try.func10 (by kernel_rfl) rfl #[.slice Ao42 y199.length co42, .int .i64 (-1)] rfl (by (try simp only [List.map_toArray, List.map_cons, List.map_nil]); first | done | rfl | (simp only [List.length_drop, List.length_take]; rfl)) ?_; (with_reducible refine (scale_Utc.calls k _ _ y199 (-1) t211 t212 t213 _ ?side1 ?side2 A4.out).mono ?_); (case side1 => repeat (first | exact (Kd.R_reads' HO201.out).2.2 | (with_reducible refine Kd.C_alloc ?_ _) | (with_reducible refine Kd.C_drewN ?_ _) | (with_reducible refine Kd.C_drew ?_))); (case side2 => exact (Kd.R_reads' HO201.out).2.1); rintro e w46 ⟨rfl, hb⟩; refine ⟨_, rfl, ?_⟩; have n0_ := Aside0.mk (Kd.R_below (by (with_reducible repeat (first | apply Kd.R_alloc | apply Kd.R_drewN | apply Kd.R_drew)); exact HO201.out) hb); have n1_ := Aside0.mk (below_step (by repeat (first | (with_reducible first | exact HB.out | apply below_alloc | apply pw_below_drewN | apply below_drew1) | exact HB.out)) hb); clear HO201; clear HB; have HO201 := n0_; have HB := n1_; clear n0_ n1_; (try clear hb); (try clear hb2); (try clear hk); (try clear hi)) | ((with_reducible refine gate_callee (f := 10) rfl ?_); refine goesL_ (some 64) rfl rfl Try.func10 (by kernel_rfl) rfl #[.slice Ao42 y199.length co42, .int .i64 136928000] rfl (by (try simp only [List.map_toArray, List.map_cons, List.map_nil]); first | done | rfl | (simp only [List.length_drop, List.length_take]; rfl)) ?_; (with_reducible refine (scale_Utc.calls k _ _ y199 136928000 t214 t215 t216 _ ?side1 ?side2 A5.out).mono ?_); (case side1 => repeat (first | exact (Kd.R_reads' HO201.out).2.2 | (with_reducible refine Kd.C_alloc ?_ _) | (with_reducible refine Kd.C_drewN ?_ _) | (with_reducible refine Kd.C_drew ?_))); (case side2 => exact (Kd.R_reads' HO201.out).2.1); rintro e w47 ⟨rfl, hb⟩; refine ⟨_, rfl, ?_⟩; have n0_ := Aside0.mk (Kd.R_below (by (with_reducible repeat (first | apply Kd.R_alloc | apply Kd.R_drewN | apply Kd.R_drew)); exact HO201.out) hb); have n1_ := Aside0.mk (below_step (by repeat (first | (with_reducible first | exact HB.out | apply below_alloc | apply pw_below_drewN | apply below_drew1) | exact HB.out)) hb); clear HO201; clear HB; have HO201 := n0_; have HB := n1_; clear n0_ n1_; (try clear hb); (try clear hb2); (try clear hk); (try clear hi)) | ((with_reducible refine gate_callee (f := 12) rfl ?_); refine goesL_ (some 70) rfl rfl Try.func12 (by kernel_rfl) rfl #[.slice Ao42 y199.length co42, .int .i64 911, .int .i64 86400] rfl (by (try simp only [List.map_toArray, List.map_cons, List.map_nil]); first | done | rfl | (simp only [List.length_drop, List.length_take]; rfl)) ?_; (with_reducible refine (scale_Tai.calls k _ _ y199 911 86400 t217 t218 _ ?side1 ?side2 A6.out).mono ?_); (case side1 => repeat (first | exact (Kd.R_reads' HO201.out).2.2 | (with_reducible refine Kd.C_alloc ?_ _) | (with_reducible refine Kd.C_drewN ?_ _) | (with_reducible refine Kd.C_drew ?_))); (case side2 => exact (Kd.R_reads' HO201.out).2.1); rintro e w48 ⟨rfl, hb⟩; refine ⟨_, rfl, ?_⟩; have n0_ := Aside0.mk (Kd.R_below (by (with_reducible repeat (first | apply Kd.R_alloc | apply Kd.R_drewN | apply Kd.R_drew)); exact HO201.out) hb); have n1_ := Aside0.mk (below_step (by repeat (first | (with_reducible first | exact HB.out | apply below_alloc | apply pw_below_drewN | apply below_drew1) | exact HB.out)) hb); clear HO201; clear HB; have HO201 := n0_; have HB := n1_; clear n0_ n1_; (try clear hb); (try clear hb2); (try clear hk); (try clear hi)) | ((with_reducible refine gate_callee (f := 12) rfl ?_); refine goesL_ (some 75) rfl rfl Try.func12 (by kernel_rfl) rfl #[.slice Ao42 y199.length co42, .int .i64 912, .int .i64 86400] rfl (by (try simp only [List.map_toArray, List.map_cons, List.map_nil]); first | done | rfl | (simp only [List.length_drop, List.length_take]; rfl)) ?_; (with_reducible refine (scale_Tai.calls k _ _ y199 912 86400 t219 t220 _ ?side1 ?side2 A7.out).mono ?_); (case side1 => repeat (first | exact (Kd.R_reads' HO201.out).2.2 | (with_reducible refine Kd.C_alloc ?_ _) | (with_reducible refine Kd.C_drewN ?_ _) | (with_reducible refine Kd.C_drew ?_))); (case side2 => exact (Kd.R_reads' HO201.out).2.1); rintro e w49 ⟨rfl, hb⟩; refine ⟨_, rfl, ?_⟩; have n0_ := Aside0.mk (Kd.R_below (by (with_reducible repeat (first | apply Kd.R_alloc | apply Kd.R_drewN | apply Kd.R_drew)); exact HO201.out) hb); have n1_ := Aside0.mk (below_step (by repeat (first | (with_reducible first | exact HB.out | apply below_alloc | apply pw_below_drewN | apply below_drew1) | exact HB.out)) hb); clear HO201; clear HB; have HO201 := n0_; have HB := n1_; clear n0_ n1_; (try clear hb); (try clear hb2); (try clear hk); (try clear hi)) | ((with_reducible refine gate_callee (f := 12) rfl ?_); refine goesL_ (some 80) rfl rfl Try.func12 (by kernel_rfl) rfl #[.slice Ao42 y199.length co42, .int .i64 1460, .int .i64 86399] rfl (by (try simp only [List.map_toArray, List.map_cons, List.map_nil]); first | done | rfl | (simp only [List.length_drop, List.length_take]; rfl)) ?_; (with_reducible refine (scale_Tai.calls k _ _ y199 1460 86399 t221 t222 _ ?side1 ?side2 A8.out).mono ?_); (case side1 => repeat (first | exact (Kd.R_reads' HO201.out).2.2 | (with_reducible refine Kd.C_alloc ?_ _) | (with_reducible refine Kd.C_drewN ?_ _) | (with_reducible refine Kd.C_drew ?_))); (case side2 => exact (Kd.R_reads' HO201.out).2.1); rintro e w50 ⟨rfl, hb⟩; refine ⟨_, rfl, ?_⟩; have n0_ := Aside0.mk (Kd.R_below (by (with_reducible repeat (first | apply Kd.R_alloc | apply Kd.R_drewN | apply Kd.R_drew)); exact HO201.out) hb); have n1_ := Aside0.mk (below_step (by repeat (first | (with_reducible first | exact HB.out | apply below_alloc | apply pw_below_drewN | apply below_drew1) | exact HB.out)) hb); clear HO201; clear HB; have HO201 := n0_; have HB := n1_; clear n0_ n1_; (try clear hb); (try clear hb2); (try clear hk); (try clear hi)) | ((with_reducible refine gate_callee (f := 12) rfl ?_); refine goesL_ (some 85) rfl rfl Try.func12 (by kernel_rfl) rfl #[.slice Ao42 y199.length co42, .int .i64 1461, .int .i64 0] rfl (by (try simp only [List.map_toArray, List.map_cons, List.map_nil]); first | done | rfl | (simp only [List.length_drop, List.length_take]; rfl)) ?_; (with_reducible refine (scale_Tai.calls k _ _ y199 1461 0 t223 t224 _ ?side1 ?side2 A9.out).mono ?_); (case side1 => repeat (first | exact (Kd.R_reads' HO201.out).2.2 | (with_reducible refine Kd.C_alloc ?_ _) | (with_reducible refine Kd.C_drewN ?_ _) | (with_reducible refine Kd.C_drew ?_))); (case side2 => exact (Kd.R_reads' HO201.out).2.1); rintro e w51 ⟨rfl, hb⟩; refine ⟨_, rfl, ?_⟩; have n0_ := Aside0.mk (Kd.R_below (by (with_reducible repeat (first | apply Kd.R_alloc | apply Kd.R_drewN | apply Kd.R_drew)); exact HO201.out) hb); have n1_ := Aside0.mk (below_step (by repeat (first | (with_reducible first | exact HB.out | apply below_alloc | apply pw_below_drewN | apply below_drew1) | exact HB.out)) hb); clear HO201; clear HB; have HO201 := n0_; have HB := n1_; clear n0_ n1_; (try clear hb); (try clear hb2); (try clear hk); (try clear hi)) | ((with_reducible refine gate_callee (f := 14) rfl ?_); refine goesL_ (some 90) rfl rfl Try.func14 (by kernel_rfl) rfl #[.slice Ao42 y199.length co42, .int .i64 1460] rfl (by (try simp only [List.map_toArray, List.map_cons, List.map_nil]); first | done | rfl | (simp only [List.length_drop, List.length_take]; rfl)) ?_; (with_reducible refine (scale_Length.calls k _ _ y199 1460 t225 t226 _ ?side1 ?side2 A10.out).mono ?_); (case side1 => repeat (first | exact (Kd.R_reads' HO201.out).2.2 | (with_reducible refine Kd.C_alloc ?_ _) | (with_reducible refine Kd.C_drewN ?_ _) | (with_reducible refine Kd.C_drew ?_))); (case side2 => exact (Kd.R_reads' HO201.out).2.1); rintro e w52 ⟨rfl, hb⟩; refine ⟨_, rfl, ?_⟩; have n0_ := Aside0.mk (Kd.R_below (by (with_reducible repeat (first | apply Kd.R_alloc | apply Kd.R_drewN | apply Kd.R_drew)); exact HO201.out) hb); have n1_ := Aside0.mk (below_step (by repeat (first | (with_reducible first | exact HB.out | apply below_alloc | apply pw_below_drewN | apply below_drew1) | exact HB.out)) hb); clear HO201; clear HB; have HO201 := n0_; have HB := n1_; clear n0_ n1_; (try clear hb); (try clear hb2); (try clear hk); (try clear hi)) | ((with_reducible refine gate_callee (f := 16) rfl ?_); refine goesL_ (some 95) rfl rfl Try.func16 (by kernel_rfl) rfl #[.slice Ao42 y199.length co42] rfl (by (try simp only [List.map_toArray, List.map_cons, List.map_nil]); first | done | rfl | (simp only [List.length_drop, List.length_take]; rfl)) ?_; (with_reducible refine (scale_End.calls k _ _ y199 t227 true _ ?side1 ?side2 A11.out).mono ?_); (case side1 => repeat (first | exact (Kd.R_reads' HO201.out).2.2 | (with_reducible refine Kd.C_alloc ?_ _) | (with_reducible refine Kd.C_drewN ?_ _) | (with_reducible refine Kd.C_drew ?_))); (case side2 => exact (Kd.R_reads' HO201.out).2.1); rintro e w53 ⟨rfl, hb⟩; refine ⟨_, rfl, ?_⟩; have n0_ := Aside0.mk (Kd.R_below (by (with_reducible repeat (first | apply Kd.R_alloc | apply Kd.R_drewN | apply Kd.R_drew)); exact HO201.out) hb); have n1_ := Aside0.mk (below_step (by repeat (first | (with_reducible first | exact HB.out | apply below_alloc | apply pw_below_drewN | apply below_drew1) | exact HB.out)) hb); clear HO201; clear HB; have HO201 := n0_; have HB := n1_; clear n0_ n1_; (try clear hb); (try clear hb2); (try clear hk); (try clear hi)) | ((with_reducible refine gate_dst (N := 100) rfl ?_); refine Kd.R_lit k45 _ 45 ?hg (N := 100) ?hd (xs := ([(⟨5, 1⟩ : S45)] : List (S45))) (inner := [.int .i64 5, .int .i64 1]) (ok := fun _ => True) (okp := fun _ => True) ?hr ?hp (fun _ hk => hk) trivial (Below.refl _ _) (Nat.le_refl _) (by simp) ?_; (case hd => rfl); (case hg => rfl); (case hr => first | (go_simp; done) | (go_simp; rfl)); (case hp => exact (Reps.c2 (show Kd.M k45 _ _ _ (⟨5, 1⟩ : S45) [.int .i64 5, .int .i64 1] from (k45_mkM _ _ _ (⟨5, 1⟩ : S45) )) (Reps.none _ _))); intro v230 w54 ho55 hb hg_ hnew_; clear hg_ hnew_; (first | rw [← Ny229.out] at ho55 | (simp only [Int.reduceToNat] at ho55; rw [← Ny229.out] at ho55)); have n0_ := Aside0.mk (Kd.R_elder' (by (with_reducible repeat (first | apply Kd.R_alloc | apply Kd.R_drewN | apply Kd.R_drew)); exact HO201.out) (Kd.R_base ho55) hb); have n1_ := Aside0.mk (Kd.R_lower (Kd.R_new' ho55 (Kd.R_lt (by (with_reducible repeat (first | apply Kd.R_alloc | apply Kd.R_drewN | apply Kd.R_drew)); exact HO201.out))) (below_size (by repeat (first | (with_reducible first | exact HB.out | apply below_alloc | apply pw_below_drewN | apply below_drew1) | exact HB.out)))); have n2_ := Aside0.mk (below_step (by repeat (first | (with_reducible first | exact HB.out | apply below_alloc | apply pw_below_drewN | apply below_drew1) | exact HB.out)) hb); clear HO201; clear HB; have HO201 := n0_; have HO231 := n1_; have HB := n2_; clear n0_ n1_ n2_; clear hb ho55; obtain ⟨Ao56, co56, eo56⟩ := Kd.R_slice HO231.out; subst eo56) | ((with_reducible refine gate_callee (f := 10) rfl ?_); refine goesL_ (some 101) rfl rfl Try.func10 (by kernel_rfl) rfl #[.slice Ao56 y229.length co56, .int .i64 1] rfl (by (try simp only [List.map_toArray, List.map_cons, List.map_nil]); first | done | rfl | (simp only [List.length_drop, List.length_take]; rfl)) ?_; (with_reducible refine (scale_Utc.calls k _ _ y229 1 t232 t233 t234 _ ?side1 ?side2 A12.out).mono ?_); (case side1 => repeat (first | exact (Kd.R_reads' HO231.out).2.2 | (with_reducible refine Kd.C_alloc ?_ _) | (with_reducible refine Kd.C_drewN ?_ _) | (with_reducible refine Kd.C_drew ?_))); (case side2 => exact (Kd.R_reads' HO231.out).2.1); rintro e w57 ⟨rfl, hb⟩; refine ⟨_, rfl, ?_⟩; have n0_ := Aside0.mk (Kd.R_below (by (with_reducible repeat (first | apply Kd.R_alloc | apply Kd.R_drewN | apply Kd.R_drew)); exact HO201.out) hb); have n1_ := Aside0.mk (Kd.R_below (by (with_reducible repeat (first | apply Kd.R_alloc | apply Kd.R_drewN | apply Kd.R_drew)); exact HO231.out) hb); have n2_ := Aside0.mk (below_step (by repeat (first | (with_reducible first | exact HB.out | apply below_alloc | apply pw_below_drewN | apply below_drew1) | exact HB.out)) hb); clear HO201; clear HO231; clear HB; have HO201 := n0_; have HO231 := n1_; have HB := n2_; clear n0_ n1_ n2_; (try clear hb); (try clear hb2); (try clear hk); (try clear hi)) | ((with_reducible refine gate_callee (f := 12) rfl ?_); refine goesL_ (some 106) rfl rfl Try.func12 (by kernel_rfl) rfl #[.slice none 0 0, .int .i64 729, .int .i64 0] rfl (by (try simp only [List.map_toArray, List.map_cons, List.map_nil]); first | done | rfl | (simp only [List.length_drop, List.length_take]; rfl)) ?_; (refine (scale_Tai.calls k _ _ ([] : List (S45)) 729 0 t235 t236 _ ?side1 ?side2 A13.out).mono ?_); (case side1 => exact Kd.C_nil _ _); (case side2 => exact Nat.le_refl _); rintro e w58 ⟨rfl, hb⟩; refine ⟨_, rfl, ?_⟩; have n0_ := Aside0.mk (Kd.R_below (by (with_reducible repeat (first | apply Kd.R_alloc | apply Kd.R_drewN | apply Kd.R_drew)); exact HO201.out) hb); have n1_ := Aside0.mk (Kd.R_below (by (with_reducible repeat (first | apply Kd.R_alloc | apply Kd.R_drewN | apply Kd.R_drew)); exact HO231.out) hb); have n2_ := Aside0.mk (below_step (by repeat (first | (with_reducible first | exact HB.out | apply below_alloc | apply pw_below_drewN | apply below_drew1) | exact HB.out)) hb); clear HO201; clear HO231; clear HB; have HO201 := n0_; have HO231 := n1_; have HB := n2_; clear n0_ n1_ n2_; (try clear hb); (try clear hb2); (try clear hk); (try clear hi)) | (go_at_call 18; (with_reducible refine (scale_Known.calls k _ _ y199 true _ ?side1 ?side2 A37.out).mono ?_); (case side1 => repeat (first | exact (Kd.R_reads' HO201.out).2.2 | (with_reducible refine Kd.C_alloc ?_ _) | (with_reducible refine Kd.C_drewN ?_ _) | (with_reducible refine Kd.C_drew ?_))); (case side2 => exact (Kd.R_reads' HO201.out).2.1); rintro e w59 ⟨rfl, hb⟩; have n0_ := Aside0.mk (Kd.R_below (by (with_reducible repeat (first | apply Kd.R_alloc | apply Kd.R_drewN | apply Kd.R_drew)); exact HO201.out) hb); have n1_ := Aside0.mk (Kd.R_below (by (with_reducible repeat (first | apply Kd.R_alloc | apply Kd.R_drewN | apply Kd.R_drew)); exact HO231.out) hb); have n2_ := Aside0.mk (below_step (by repeat (first | (with_reducible first | exact HB.out | apply below_alloc | apply pw_below_drewN | apply below_drew1) | exact HB.out)) hb); clear HO201; clear HO231; clear HB; have HO201 := n0_; have HO231 := n1_; have HB := n2_; clear n0_ n1_ n2_; (try clear hb); (try clear hb2); (try clear hk); (try clear hi)) | (go_at_call 18; (refine (scale_Known.calls k _ _ ([] : List (S45)) t238 _ ?side1 ?side2 A39.out).mono ?_); (case side1 => exact Kd.C_nil _ _); (case side2 => exact Nat.le_refl _); rintro e w60 ⟨rfl, hb⟩; have n0_ := Aside0.mk (Kd.R_below (by (with_reducible repeat (first | apply Kd.R_alloc | apply Kd.R_drewN | apply Kd.R_drew)); exact HO201.out) hb); have n1_ := Aside0.mk (Kd.R_below (by (with_reducible repeat (first | apply Kd.R_alloc | apply Kd.R_drewN | apply Kd.R_drew)); exact HO231.out) hb); have n2_ := Aside0.mk (below_step (by repeat (first | (with_reducible first | exact HB.out | apply below_alloc | apply pw_below_drewN | apply below_drew1) | exact HB.out)) hb); clear HO201; clear HO231; clear HB; have HO201 := n0_; have HO231 := n1_; have HB := n2_; clear n0_ n1_ n2_; (try clear hb); (try clear hb2); (try clear hk); (try clear hi)))
                                                  go_ret
                                                  exact ⟨by first | rfl | (simp [errW_none, errW_some] <;> rfl) | (simp [*, errW_none, errW_some] <;> rfl), by repeat (first | (with_reducible first | exact HB.out | apply below_alloc | apply pw_below_drewN | apply below_drew1) | exact HB.out)⟩
                                                · replace c38 := Bool.eq_false_iff.mpr c38
                                                  subst c38
                                                  have H1 : (none) = some r := by rw [if_neg (show ¬ (false = true) by decide)] at H; exact H
                                                  clear H
                                                  have H := H1
                                                  clear H1
                                                  exact absurd H (by simp)
                                              · rw [if_neg c36] at H
                                                exact absurd H (by simp)
                                            · rw [if_neg c35] at H
                                              exact absurd H (by simp)
                                          · replace c34 := Bool.eq_false_iff.mpr c34
                                            subst c34
                                            have H1 : (none) = some r := by rw [if_neg (show ¬ (false = true) by decide)] at H; exact H
                                            clear H
                                            have H := H1
                                            clear H1
                                            exact absurd H (by simp)
                                        · rw [if_neg c33] at H
                                          exact absurd H (by simp)
                                      · rw [if_neg c32] at H
                                        exact absurd H (by simp)
                                    · rw [if_neg c31] at H
                                      exact absurd H (by simp)
                                  · rw [if_neg c30] at H
                                    exact absurd H (by simp)
                                · rw [if_neg c29] at H
                                  exact absurd H (by simp)
                              · rw [if_neg c28] at H
                                exact absurd H (by simp)
                            · rw [if_neg c27] at H
                              exact absurd H (by simp)
                          · rw [if_neg c26] at H
                            exact absurd H (by simp)
                        · rw [if_neg c25] at H
                          exact absurd H (by simp)
                      · rw [if_neg c24] at H
                        exact absurd H (by simp)
                    · rw [if_neg c23] at H
                      exact absurd H (by simp)
                  · rw [if_neg c22] at H
                    exact absurd H (by simp)
                · rw [if_neg c21] at H
                  exact absurd H (by simp)
              · rw [if_neg c20] at H
                exact absurd H (by simp)
            · rw [if_neg c19] at H
              exact absurd H (by simp)
          · rw [if_neg c18] at H
            exact absurd H (by simp)
        · rw [if_neg c17] at H
          exact absurd H (by simp)
      · rw [if_neg c16] at H
        exact absurd H (by simp)
    · rw [if_neg c15] at H
      exact absurd H (by simp)
  · rw [if_neg c14] at H
    exact absurd H (by simp)

/-! ### epactref12_ahead: function 62 -/
def epactref12_ahead.f (l0 : List (S45)) (a1 : Int) : Option (Int) := if a1 = 0 then (some 0) else (if 0 ≤ (wrap64 (a1 - 1)) then (if (wrap64 (a1 - 1)) < (l0.length : Int) then (some ((rd_T45 l0 (wrap64 (a1 - 1))).f1)) else (none)) else (none))
set_option maxHeartbeats 8000000 in
set_option maxRecDepth 100000 in
theorem epactref12_ahead.calls (A0 : Option Addr) (c0 : Nat) (l0 : List (S45)) (a1 : Int) (r : Int) (w : World) (hr0 : Kd.C k45 w A0 l0.length l0) (hc0 : l0.length ≤ c0) (h : epactref12_ahead.f l0 a1 = some r) :
    Calls Try.prog 62 #[.slice A0 l0.length c0, .int .i64 a1] w fun e w' => e = .returned (.int .i64 r) ∧ Drawn0 w w' := by
  have HR0 := Aside0.mk hr0
  have HC0 := Aside0.mk hc0
  clear hr0 hc0
  have H : (if a1 = 0 then (some 0) else (if 0 ≤ (wrap64 (a1 - 1)) then (if (wrap64 (a1 - 1)) < (l0.length : Int) then (some ((rd_T45 l0 (wrap64 (a1 - 1))).f1)) else (none)) else (none))) = some r := h
  clear h
  by_cases c3 : a1 = 0
  · rw [if_pos c3] at H
    have c3b0 : (a1 == 0) = true := beq_iff_eq.mpr c3
    have c3b1 : (a1 != 0) = false := bne_eq_false_iff_eq.mpr c3
    clear c3
    obtain rfl := Option.some.inj H
    go_enter Try.func62, Try.ntmps62
    go_wp2
    go_ret
    exact ⟨by first | rfl | (simp; done) | (simp [*]; done), by repeat (first | exact Drawn0.refl _ | apply Drawn0.step)⟩
  · rw [if_neg c3] at H
    have c3b0 : (a1 == 0) = false := beq_eq_false_iff_ne.mpr c3
    have c3b1 : (a1 != 0) = true := bne_iff_ne.mpr c3
    obtain ⟨ji4, hji4⟩ : ∃ j_ : Int, (wrap64 (a1 - 1)) = j_ := ⟨_, rfl⟩
    replace H : (if 0 ≤ (ji4) then (if (ji4) < (l0.length : Int) then (some ((rd_T45 l0 (ji4)).f1)) else (none)) else (none)) = some r := by first | (rw [hji4] at H; exact H) | (simp only [hji4] at H ⊢; exact H)
    have hji4w : (IntKind.i64.wrap (a1 - 1)) = ji4 := (i64_w _).trans hji4
    by_cases c5 : 0 ≤ (ji4)
    · rw [if_pos c5] at H
      have c5b0 : decide (0 ≤ (ji4)) = true := decide_eq_true c5
      clear c5
      by_cases c6 : (ji4) < (l0.length : Int)
      · rw [if_pos c6] at H
        have c6b0 : decide ((ji4) < (l0.length : Int)) = true := decide_eq_true c6
        clear c6
        obtain rfl := Option.some.inj H
        have p239 : 0 ≤ ((ji4) : Int) := of_decide_eq_true (by first | (with_reducible assumption) | assumption)
        have q239 : (ji4) < (l0.length : Int) := of_decide_eq_true (by first | (with_reducible assumption) | assumption)
        obtain ⟨ad239, e239, hx239_0, hx239_1⟩ := at_T45 HR0.out (ji4) p239 q239
        cases e239
        replace p239 := eq_true p239
        replace q239 := eq_true q239
        go_enter Try.func62, Try.ntmps62
        go_wp2
        go_ret
        exact ⟨by first | rfl | (simp; done) | (simp only [← hji4] <;> (first | rfl | simp)) | (simp [*]; done), by repeat (first | exact Drawn0.refl _ | apply Drawn0.step)⟩
      · rw [if_neg c6] at H
        exact absurd H (by simp)
    · rw [if_neg c5] at H
      exact absurd H (by simp)

/-! ### epactref01_Sub: function 64 -/
def epactref01_Sub.f (a0 : Int) (a1 : Int) : Option (Int × Bool) := if a1 < 0 then (if a0 > (wrap64 (9223372036854775807 + a1)) then (some (0, false)) else (if a1 > 0 then (if a0 < (wrap64 ((-9223372036854775808) + a1)) then (some (0, false)) else (some (wrap64 (a0 - a1), true))) else (some (wrap64 (a0 - a1), true)))) else (if a1 > 0 then (if a0 < (wrap64 ((-9223372036854775808) + a1)) then (some (0, false)) else (some (wrap64 (a0 - a1), true))) else (some (wrap64 (a0 - a1), true)))
set_option maxHeartbeats 8000000 in
set_option maxRecDepth 100000 in
theorem epactref01_Sub.calls (a0 : Int) (a1 : Int) (r1 : Int) (r2 : Bool) (w : World) (h : epactref01_Sub.f a0 a1 = some (r1, r2)) :
    Calls Try.prog 64 #[.int .i64 a0, .int .i64 a1] w fun e w' => e = .returned (.tuple #[.int .i64 r1, .bool r2]) ∧ Drawn0 w w' := by
  have H : (if a1 < 0 then (if a0 > (wrap64 (9223372036854775807 + a1)) then (some (0, false)) else (if a1 > 0 then (if a0 < (wrap64 ((-9223372036854775808) + a1)) then (some (0, false)) else (some (wrap64 (a0 - a1), true))) else (some (wrap64 (a0 - a1), true)))) else (if a1 > 0 then (if a0 < (wrap64 ((-9223372036854775808) + a1)) then (some (0, false)) else (some (wrap64 (a0 - a1), true))) else (some (wrap64 (a0 - a1), true)))) = some (r1, r2) := h
  clear h
  by_cases c3 : a1 < 0
  · rw [if_pos c3] at H
    have c3b0 : decide (a1 < 0) = true := decide_eq_true c3
    clear c3
    by_cases c4 : a0 > (wrap64 (9223372036854775807 + a1))
    · rw [if_pos c4] at H
      have c4b0 : decide ((wrap64 (9223372036854775807 + a1)) < a0) = true := decide_eq_true c4
      clear c4
      simp only [Option.some.injEq, Prod.mk.injEq] at H
      obtain ⟨rfl, rfl⟩ := H
      go_enter Try.func64, Try.ntmps64
      go_wp2
      go_ret2
      exact ⟨by first | rfl | (simp; done) | (simp [*]; done), by repeat (first | exact Drawn0.refl _ | apply Drawn0.step)⟩
    · rw [if_neg c4] at H
      have c4b0 : decide ((wrap64 (9223372036854775807 + a1)) < a0) = false := decide_eq_false c4
      clear c4
      by_cases c5 : a1 > 0
      · rw [if_pos c5] at H
        have c5b0 : decide (0 < a1) = true := decide_eq_true c5
        clear c5
        by_cases c6 : a0 < (wrap64 ((-9223372036854775808) + a1))
        · rw [if_pos c6] at H
          have c6b0 : decide (a0 < (wrap64 ((-9223372036854775808) + a1))) = true := decide_eq_true c6
          clear c6
          simp only [Option.some.injEq, Prod.mk.injEq] at H
          obtain ⟨rfl, rfl⟩ := H
          go_enter Try.func64, Try.ntmps64
          go_wp2
          go_ret2
          exact ⟨by first | rfl | (simp; done) | (simp [*]; done), by repeat (first | exact Drawn0.refl _ | apply Drawn0.step)⟩
        · rw [if_neg c6] at H
          have c6b0 : decide (a0 < (wrap64 ((-9223372036854775808) + a1))) = false := decide_eq_false c6
          clear c6
          simp only [Option.some.injEq, Prod.mk.injEq] at H
          obtain ⟨rfl, rfl⟩ := H
          go_enter Try.func64, Try.ntmps64
          go_wp2
          go_ret2
          exact ⟨by first | rfl | (simp; done) | (simp [*]; done), by repeat (first | exact Drawn0.refl _ | apply Drawn0.step)⟩
      · rw [if_neg c5] at H
        have c5b0 : decide (0 < a1) = false := decide_eq_false c5
        clear c5
        simp only [Option.some.injEq, Prod.mk.injEq] at H
        obtain ⟨rfl, rfl⟩ := H
        go_enter Try.func64, Try.ntmps64
        go_wp2
        go_ret2
        exact ⟨by first | rfl | (simp; done) | (simp [*]; done), by repeat (first | exact Drawn0.refl _ | apply Drawn0.step)⟩
  · rw [if_neg c3] at H
    have c3b0 : decide (a1 < 0) = false := decide_eq_false c3
    clear c3
    by_cases c7 : a1 > 0
    · rw [if_pos c7] at H
      have c7b0 : decide (0 < a1) = true := decide_eq_true c7
      clear c7
      by_cases c8 : a0 < (wrap64 ((-9223372036854775808) + a1))
      · rw [if_pos c8] at H
        have c8b0 : decide (a0 < (wrap64 ((-9223372036854775808) + a1))) = true := decide_eq_true c8
        clear c8
        simp only [Option.some.injEq, Prod.mk.injEq] at H
        obtain ⟨rfl, rfl⟩ := H
        go_enter Try.func64, Try.ntmps64
        go_wp2
        go_ret2
        exact ⟨by first | rfl | (simp; done) | (simp [*]; done), by repeat (first | exact Drawn0.refl _ | apply Drawn0.step)⟩
      · rw [if_neg c8] at H
        have c8b0 : decide (a0 < (wrap64 ((-9223372036854775808) + a1))) = false := decide_eq_false c8
        clear c8
        simp only [Option.some.injEq, Prod.mk.injEq] at H
        obtain ⟨rfl, rfl⟩ := H
        go_enter Try.func64, Try.ntmps64
        go_wp2
        go_ret2
        exact ⟨by first | rfl | (simp; done) | (simp [*]; done), by repeat (first | exact Drawn0.refl _ | apply Drawn0.step)⟩
    · rw [if_neg c7] at H
      have c7b0 : decide (0 < a1) = false := decide_eq_false c7
      clear c7
      simp only [Option.some.injEq, Prod.mk.injEq] at H
      obtain ⟨rfl, rfl⟩ := H
      go_enter Try.func64, Try.ntmps64
      go_wp2
      go_ret2
      exact ⟨by first | rfl | (simp; done) | (simp [*]; done), by repeat (first | exact Drawn0.refl _ | apply Drawn0.step)⟩

end Go.Proofs.Ythecldgopjaogaa.PAll
