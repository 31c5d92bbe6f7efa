-- Written for this claim by wip/tools of this repo (after the kit's print; own contracts laid in).
import Derived.Test.YtlfnkamhokfeaaaPAllx0
import Derived.Test.YtlfnkamhokfeaaaPAllx1
import Derived.Test.YtlfnkamhokfeaaaPAllx2
import Derived.Test.YtlfnkamhokfeaaaPAllx3
namespace Go.Proofs.Ytlfnkamhokfeaaa.PAll
open Go.RowKit Go.Proofs.YtlfnkamhokfeaaaW.PrintWords Go.Proofs.YtlfnkamhokfeaaaW.PrintLast Go.Proofs.YtlfnkamhokfeaaaW.PrintMore
attribute [local go_sem] max2_int min2_int max_two min_two max_three min_three max_four min_four   -- for this text's walks alone
set_option linter.unusedVariables false
set_option linter.unusedSimpArgs false

/-! ### scale_Known: function 28 -/
def scale_Known.f (k : Nat) (l0 : List (S40)) : Option (Bool) := (record_Right.f k l0).bind fun t157 => (if t157 = true then ((record_Table.f k l0).bind fun bt158 => (some bt158.2.2.2)) else (some false))
theorem scale_Known.mono : ∀ a0 k, LeO (scale_Known.f k a0) (scale_Known.f (k + 1) a0) := by
  intro a0 k
  unfold scale_Known.f
  repeat' first
      | (with_reducible exact record_Right.mono _ _)
      | (with_reducible exact record_Table.mono _ _)
      | (with_reducible exact LeO.refl _)
      | (with_reducible exact LeO.none _)
      | (with_reducible refine LeO.ite ?_ ?_)
      | (with_reducible refine LeO.bind ?_ (fun _ => ?_))
      | exact record_Right.mono _ _
      | exact record_Table.mono _ _
      | exact LeO.none _
      | refine LeO.ite ?_ ?_
      | refine LeO.bind ?_ (fun _ => ?_)
set_option maxHeartbeats 8000000 in
set_option maxRecDepth 100000 in
theorem scale_Known.calls (k : Nat) (A0 : Option Addr) (c0 : Nat) (l0 : List (S40)) (r : Bool) (w : World) (hr0 : Kd.C k40 w A0 l0.length l0) (hc0 : l0.length ≤ c0) (h : scale_Known.f k l0 = some r) :
    Calls Try.prog 28 #[.slice A0 l0.length c0] w fun e w' => e = .returned (.bool r) ∧ Below w.heap.size w w' := by
  have hu48 := Try.underlying48
  have HR0 := Aside0.mk hr0
  have HC0 := Aside0.mk hc0
  clear hr0 hc0
  have HB := Aside0.mk (Below.refl w.heap.size w)
  have H : ((record_Right.f k l0).bind fun t157 => (if t157 = true then ((record_Table.f k l0).bind fun bt158 => (some bt158.2.2.2)) else (some false))) = some r := h
  clear h
  replace H := Option.bind_eq_some_iff.mp H
  obtain ⟨t157, A20, H⟩ := H
  replace H : (if t157 = true then ((record_Table.f k l0).bind fun bt158 => (some bt158.2.2.2)) else (some false)) = some r := H
  have A2 := Aside0.mk A20
  clear A20
  by_cases c3 : t157 = true
  · subst c3
    have H1 : ((record_Table.f k l0).bind fun bt158 => (some bt158.2.2.2)) = some r := by rw [if_pos rfl] at H; exact H
    clear H
    have H := H1
    clear H1
    replace H := Option.bind_eq_some_iff.mp H
    obtain ⟨⟨t158, t161, t162, t163⟩, A40, H⟩ := H
    replace H : (some t163) = some r := H
    have A4 := Aside0.mk A40
    clear A40
    obtain rfl := Option.some.inj H
    go_enter Try.func28, Try.ntmps28
    go_wp2_with (first | ((with_reducible refine gate_callee (f := 40) rfl ?_); refine goesL_ (some 6) rfl rfl Try.func40 (by kernel_rfl) rfl #[.slice A0 l0.length c0] rfl (by (try simp only [List.map_toArray, List.map_cons, List.map_nil]); first | done | rfl | (simp only [List.length_drop, List.length_take]; rfl)) ?_; (with_reducible refine (record_Right.calls k _ _ l0 true _ ?side1 ?side2 A2.out).mono ?_); (case side1 => repeat (first | exact HR0.out | (with_reducible refine Kd.C_alloc ?_ _) | (with_reducible refine Kd.C_drewN ?_ _) | (with_reducible refine Kd.C_drew ?_))); (case side2 => exact HC0.out); rintro e w5 ⟨rfl, hb⟩; refine ⟨_, rfl, ?_⟩; have n0_ := Aside0.mk (below_step (by repeat (first | (with_reducible first | exact HB.out | apply below_alloc | apply pw_below_drewN | apply below_drew1) | exact HB.out)) hb); clear HB; have HB := n0_; clear n0_; (try clear hb); (try clear hb2); (try clear hk); (try clear hi)) | ((with_reducible refine gate_callee (f := 41) rfl ?_); refine goesL_ (some 10) rfl rfl Try.func41 (by kernel_rfl) rfl #[.slice A0 l0.length c0] rfl (by (try simp only [List.map_toArray, List.map_cons, List.map_nil]); first | done | rfl | (simp only [List.length_drop, List.length_take]; rfl)) ?_; (with_reducible refine (record_Table.calls k _ _ l0 t158 t161 t162 t163 _ ?side1 ?side2 A4.out).mono ?_); (case side1 => repeat (first | exact (Kd.C_below HR0.out HB.out) | (with_reducible refine Kd.C_alloc ?_ _) | (with_reducible refine Kd.C_drewN ?_ _) | (with_reducible refine Kd.C_drew ?_))); (case side2 => exact HC0.out); rintro e w6 ⟨v159, rfl, ho0, hb⟩; refine ⟨_, rfl, ?_⟩; have n0_ := Aside0.mk (Kd.R_lower ho0 (below_size (by repeat (first | (with_reducible first | exact HB.out | apply below_alloc | apply pw_below_drewN | apply below_drew1) | exact HB.out)))); have n1_ := Aside0.mk (below_step (by repeat (first | (with_reducible first | exact HB.out | apply below_alloc | apply pw_below_drewN | apply below_drew1) | exact HB.out)) hb); clear HB; have HO160 := n0_; have HB := n1_; clear n0_ n1_; (try clear hb); (try clear hb2); (try clear hk); (try clear hi); (try clear ho0)) | ((with_reducible refine gate_dst (N := 3) rfl ?_); refine box_event ?hg (N := 3) ?hd (cs := #[.slice none 0 0, .bool false, .int .i64 0]) (t := 48) ?hr ?_; (case hd => rfl); (case hg => rfl); (case hr => first | (go_simp; done) | (go_simp; rfl)); intro gb164 hg w7 hbox hb; have n0_ := Aside0.mk (Kd.R_below (by (with_reducible repeat (first | apply Kd.R_alloc | apply Kd.R_drewN | apply Kd.R_drew)); exact HO160.out) hb); have n1_ := Aside0.mk (below_step (by repeat (first | (with_reducible first | exact HB.out | apply below_alloc | apply pw_below_drewN | apply below_drew1) | exact HB.out)) hb); have n2_ := Aside0.mk (hbox); have n3_ := Aside0.mk ((by rw [hg]; exact (below_size (by repeat (first | (with_reducible first | exact HB.out | apply below_alloc | apply pw_below_drewN | apply below_drew1) | exact HB.out))) : w.heap.size ≤ gb164)); have n4_ := Aside0.mk ((by rw [hg]; exact (below_size (by repeat (first | (with_reducible first | exact HB.out | apply below_alloc | apply pw_below_drewN | apply below_drew1) | exact HB.out))) : w.heap.size ≤ gb164)); clear HO160; clear HB; have HO160 := n0_; have HB := n1_; have BK164 := n2_; have GW164 := n3_; have GE164 := n4_; clear n0_ n1_ n2_ n3_ n4_; clear hb hbox hg; obtain ⟨Ao8, co8, eo8⟩ := Kd.R_slice HO160.out; subst eo8; have hcz9_0 : w7.cell? ⟨gb164, 0, none⟩ = some (.slice none 0 0) := (blk_cell BK164.out 0).trans rfl; have hcz9_1 : w7.cell? ⟨gb164, 1, none⟩ = some (.bool false) := (blk_cell BK164.out 1).trans rfl; have hcz9_2 : w7.cell? ⟨gb164, 2, none⟩ = some (.int .i64 0) := (blk_cell BK164.out 2).trans rfl; have hfz9_0 := blk_frozen BK164.out 0; have hfz9_1 := blk_frozen BK164.out 1; have hfz9_2 := blk_frozen BK164.out 2))
    go_ret
    exact ⟨by first | rfl | (simp [errW_none, errW_some] <;> rfl) | (simp [*, errW_none, errW_some] <;> rfl), by repeat (first | (with_reducible first | exact HB.out | apply below_alloc | apply pw_below_drewN | apply below_drew1 | refine below_set ?_ GE164.out) | exact HB.out)⟩
  · replace c3 := Bool.eq_false_iff.mpr c3
    subst c3
    have H1 : (some false) = some r := by rw [if_neg (show ¬ (false = true) by decide)] at H; exact H
    clear H
    have H := H1
    clear H1
    obtain rfl := Option.some.inj H
    go_enter Try.func28, Try.ntmps28
    go_wp2_with (first | ((with_reducible refine gate_callee (f := 40) rfl ?_); refine goesL_ (some 6) rfl rfl Try.func40 (by kernel_rfl) rfl #[.slice A0 l0.length c0] rfl (by (try simp only [List.map_toArray, List.map_cons, List.map_nil]); first | done | rfl | (simp only [List.length_drop, List.length_take]; rfl)) ?_; (with_reducible refine (record_Right.calls k _ _ l0 false _ ?side1 ?side2 A2.out).mono ?_); (case side1 => repeat (first | exact HR0.out | (with_reducible refine Kd.C_alloc ?_ _) | (with_reducible refine Kd.C_drewN ?_ _) | (with_reducible refine Kd.C_drew ?_))); (case side2 => exact HC0.out); rintro e w10 ⟨rfl, hb⟩; refine ⟨_, rfl, ?_⟩; have n0_ := Aside0.mk (below_step (by repeat (first | (with_reducible first | exact HB.out | apply below_alloc | apply pw_below_drewN | apply below_drew1) | exact HB.out)) hb); clear HB; have HB := n0_; clear n0_; (try clear hb); (try clear hb2); (try clear hk); (try clear hi)))
    go_ret
    exact ⟨by first | rfl | (simp [errW_none, errW_some] <;> rfl) | (simp [*, errW_none, errW_some] <;> rfl), by repeat (first | (with_reducible first | exact HB.out | apply below_alloc | apply pw_below_drewN | apply below_drew1) | exact HB.out)⟩

/-! ### api_Leap_int: function 42 -/
-- by hand: wip/hand
def api_Leap_int.cnt (l : List S54) (d : Int) : Nat := l.countP (fun y => decide (y.f0 < d))
/-- rows that are searched: not too long, in order, of days that are not too great -/
def api_Leap_int.Fair (l : List S54) (d : Int) : Prop := l.length < 4611686018427387904 ∧ l.Pairwise (fun x y => x.f0 ≤ y.f0) ∧ (∀ y ∈ l, -1152921504606846976 ≤ y.f0 ∧ y.f0 ≤ 1152921504606846976) ∧ -1152921504606846976 ≤ d ∧ d ≤ 1152921504606846976
instance (l : List S54) (d : Int) : Decidable (api_Leap_int.Fair l d) := by unfold api_Leap_int.Fair; exact inferInstance
def api_Leap_int.f (l0 : List (S54)) (a1 : Int) (a2 : Nat) : Option (Int × Bool) :=
  if api_Leap_int.Fair l0 a1 ∧ a2 = 43 then some (((api_Leap_int.cnt l0 a1 : Nat) : Int), decide (api_Leap_int.cnt l0 a1 < l0.length) && decide ((l0.getD (api_Leap_int.cnt l0 a1) z54).f0 = a1)) else none
/-- the closure of step: how far a leap's day is behind a day -/
theorem api_Leap_int.clo (x : S54) (d : Int) (w W : World) (hb : Below w.heap.size w W) :
    Calls Try.prog 43 #[.agg #[.int .i64 x.f0, .int .i64 x.f1, .bool x.f2], .int .i64 d] W fun e w' => e = .returned (.int .i64 (wrap64 (x.f0 - d))) ∧ Below w.heap.size w w' := by
  have hu := Try.underlying54
  go_enter Try.func43, Try.ntmps43
  go_wp2
  all_goals (try go_region)
  all_goals (try go_wp2)
  all_goals go_ret
  all_goals exact ⟨by first | rfl | simp [wrap64], by first | exact hb.alloc hb.size _ | exact hb | repeat (first | exact hb | apply below_alloc | apply below_drew1 | apply pw_below_drewN)⟩
theorem api_Leap_int.cntb (p : S54 → Bool) : ∀ (l : List S54) (i : Nat), i ≤ l.length → (∀ t, t < i → p (l.getD t z54) = true) → (∀ t, i ≤ t → t < l.length → p (l.getD t z54) = false) → l.countP p = i
  | [], i, hi, _, _ => by simp at hi; simp [hi]
  | a :: r, 0, _, _, h2 => by
    rw [List.countP_eq_zero]
    intro x hx
    obtain ⟨t, ht, rfl⟩ := List.getElem_of_mem hx
    have := h2 t (Nat.zero_le _) ht
    simp only [List.getD_eq_getElem?_getD, List.getElem?_eq_getElem ht, Option.getD_some] at this
    simp [this]
  | a :: r, i + 1, hi, h1, h2 => by
    have ha : p a = true := by simpa using h1 0 (Nat.succ_pos _)
    rw [List.countP_cons_of_pos ha, api_Leap_int.cntb p r i (by simpa using hi) (fun t ht => by simpa using h1 (t + 1) (by omega)) (fun t h3 h4 => by simpa using h2 (t + 1) (by omega) (by simpa using h4))]
theorem api_Leap_int.asc_at {l : List S54} (h : l.Pairwise (fun x y => x.f0 ≤ y.f0)) (a b : Nat) (hab : a ≤ b) (hb : b < l.length) : (l.getD a z54).f0 ≤ (l.getD b z54).f0 := by
  have ha : a < l.length := by omega
  simp only [List.getD_eq_getElem?_getD, List.getElem?_eq_getElem ha, List.getElem?_eq_getElem hb, Option.getD_some]
  by_cases e : a = b
  · subst e; exact Int.le_refl _
  · exact List.pairwise_iff_getElem.mp h a b ha hb (by omega)
set_option maxHeartbeats 4000000 in
set_option maxRecDepth 1000000 in
theorem api_Leap_int.calls (A0 : Option Addr) (c0 : Nat) (l0 : List (S54)) (a1 : Int) (a2 : Nat) (r1 : Int) (r2 : Bool) (w : World) (hr0 : Kd.C k54 w A0 l0.length l0) (hc0 : l0.length ≤ c0) (h : api_Leap_int.f l0 a1 a2 = some (r1, r2)) :
    Calls Try.prog 42 #[.slice A0 l0.length c0, .int .i64 a1, .func (.func a2) #[] #[]] w fun e w' => e = .returned (.tuple #[.int .i64 r1, .bool r2]) ∧ Below w.heap.size w w' := by
  unfold api_Leap_int.f at h
  by_cases hs : api_Leap_int.Fair l0 a1 ∧ a2 = 43
  case neg => rw [if_neg hs] at h; exact absurd h (by simp)
  rw [if_pos hs] at h
  obtain ⟨⟨hsz, hasc, hdays, hd1, hd2⟩, rfl⟩ := hs
  generalize hcnt : api_Leap_int.cnt l0 a1 = cnt at h
  have CN : Aside (api_Leap_int.cnt l0 a1 = cnt) := hcnt
  clear hcnt
  have E := Option.some.inj h
  simp only [Prod.mk.injEq] at E
  obtain ⟨rfl, hfin⟩ := E
  have FIN : Aside ((decide (cnt < l0.length) && decide ((l0.getD cnt z54).f0 = a1)) = r2) := hfin
  have ASC : Aside (l0.Pairwise (fun x y => x.f0 ≤ y.f0)) := hasc
  have DAYS : Aside ((∀ y ∈ l0, -1152921504606846976 ≤ y.f0 ∧ y.f0 ≤ 1152921504606846976) ∧ -1152921504606846976 ≤ a1 ∧ a1 ≤ 1152921504606846976) := ⟨hdays, hd1, hd2⟩
  have HC := Aside0.mk hr0
  clear hr0 hc0 h hfin hasc hdays hd1 hd2
  have u3 := Try.underlying3
  have uu := Try.underlying61
  go_enter Try.func42, Try.ntmps42
  go_wp2
  go_loopg [9, 10] l0.length (fun kx s9 s10 wr => ∃ lo hi : Nat, s9 = .int .i64 lo ∧ s10 = .int .i64 hi ∧ lo ≤ hi ∧ hi ≤ l0.length ∧ hi - lo ≤ kx ∧ Aside (Below w.heap.size w wr) ∧
    Aside ((∀ t, t < lo → (l0.getD t z54).f0 < a1) ∧ (∀ t, hi ≤ t → t < l0.length → a1 ≤ (l0.getD t z54).f0)))
  case atStart => exact ⟨0, l0.length, rfl, rfl, Nat.zero_le _, Nat.le_refl _, by omega, Below.refl _ w, (⟨fun t ht => absurd ht (Nat.not_lt_zero _), fun t h1 h2 => by omega⟩ : (∀ t, t < 0 → (l0.getD t z54).f0 < a1) ∧ (∀ t, l0.length ≤ t → t < l0.length → a1 ≤ (l0.getD t z54).f0))⟩
  case round =>
    obtain ⟨lo, hi, rfl, rfl, hlh, hin, hg, BW, I⟩ := hrel
    have vals : ∀ t, t < l0.length → wrap64 ((l0.getD t z54).f0 - a1) = (l0.getD t z54).f0 - a1 := by
      intro t ht
      have m : l0.getD t z54 ∈ l0 := by simp [List.getD, ht]
      have := DAYS.out.1 _ m; have := DAYS.out.2; unfold wrap64; omega
    have VALS : Aside (∀ t, t < l0.length → wrap64 ((l0.getD t z54).f0 - a1) = (l0.getD t z54).f0 - a1) := vals
    clear vals
    by_cases hlt : lo < hi
    · have hmid : (lo + hi) / 2 < l0.length := by omega
      obtain ⟨ad, e0, hx0, hx1, hx2⟩ := at_T54 (Kd.C_below HC.out BW.out) (((lo + hi) / 2 : Nat) : Int) (by omega) (by omega)
      cases e0
      simp only [Int.toNat_natCast] at hx0 hx1 hx2
      have hv := VALS.out ((lo + hi) / 2) hmid
      have hy : rd_T54 l0 (((lo + hi) / 2 : Nat) : Int) = l0.getD ((lo + hi) / 2) z54 := by unfold rd_T54; rw [Int.toNat_natCast]
      rw [hy] at hx0 hx1 hx2
      have hcall := api_Leap_int.clo (l0.getD ((lo + hi) / 2) z54) a1 w wr BW.out
      rw [hv] at hcall
      clear hv hy
      generalize hgy : l0.getD ((lo + hi) / 2) z54 = y at hx0 hx1 hx2 hcall
      have Y : Aside (l0.getD ((lo + hi) / 2) z54 = y) := hgy
      clear hgy
      generalize hgv : y.f0 - a1 = v at hcall
      have V : Aside (y.f0 - a1 = v) := hgv
      clear hgv
      by_cases hyx : v < 0
      · go_wp2_with (first | (go_at_call 43; refine hcall.mono ?_; rintro e w' ⟨rfl, hb'⟩) | (go_at_fn 43; refine hcall.mono ?_; rintro e w' ⟨rfl, hb'⟩))
        go_roundg (hi - ((lo + hi) / 2 + 1))
        case measure => omega
        case rel =>
          have I2 : Aside ((∀ t, t < (lo + hi) / 2 + 1 → (l0.getD t z54).f0 < a1) ∧ (∀ t, hi ≤ t → t < l0.length → a1 ≤ (l0.getD t z54).f0)) := ⟨fun t ht => by
            have a := api_Leap_int.asc_at ASC.out t ((lo + hi) / 2) (by omega) (by omega)
            rw [Y.out] at a; have := V.out; omega, I.out.2⟩
          exact ⟨(lo + hi) / 2 + 1, hi, by first | rfl | (refine congrArg (Value.int .i64) ?_; omega), rfl, by omega, hin, Nat.le_refl _, hb', I2⟩
      · go_wp2_with (first | (go_at_call 43; refine hcall.mono ?_; rintro e w' ⟨rfl, hb'⟩) | (go_at_fn 43; refine hcall.mono ?_; rintro e w' ⟨rfl, hb'⟩))
        go_roundg ((lo + hi) / 2 - lo)
        case measure => omega
        case rel =>
          have I2 : Aside ((∀ t, t < lo → (l0.getD t z54).f0 < a1) ∧ (∀ t, (lo + hi) / 2 ≤ t → t < l0.length → a1 ≤ (l0.getD t z54).f0)) := ⟨I.out.1, fun t ht htn => by
            have a := api_Leap_int.asc_at ASC.out ((lo + hi) / 2) t ht htn
            rw [Y.out] at a; have := V.out; omega⟩
          exact ⟨lo, (lo + hi) / 2, rfl, by first | rfl | (refine congrArg (Value.int .i64) ?_; omega), by omega, by omega, Nat.le_refl _, hb', I2⟩
    · obtain rfl : hi = lo := by omega
      have ecnt : cnt = hi := by
        rw [← CN.out]
        refine api_Leap_int.cntb _ l0 hi hin (fun t ht => ?_) (fun t h3 h4 => ?_)
        · exact decide_eq_true (I.out.1 t ht)
        · exact decide_eq_false (by have := I.out.2 t h3 h4; omega)
      subst ecnt
      by_cases hn : cnt < l0.length
      · obtain ⟨ad, e0, hx0, hx1, hx2⟩ := at_T54 (Kd.C_below HC.out BW.out) (cnt : Int) (by omega) (by omega)
        cases e0
        simp only [Int.toNat_natCast] at hx0 hx1 hx2
        have hv := VALS.out cnt hn
        have hy : rd_T54 l0 (cnt : Int) = l0.getD cnt z54 := by unfold rd_T54; rw [Int.toNat_natCast]
        rw [hy] at hx0 hx1 hx2
        have hcall := api_Leap_int.clo (l0.getD cnt z54) a1 w wr BW.out
        rw [hv] at hcall
        clear hv hy
        generalize hgy : l0.getD cnt z54 = y at hx0 hx1 hx2 hcall
        have Y : Aside (l0.getD cnt z54 = y) := hgy
        clear hgy
        generalize hgv : y.f0 - a1 = v at hcall
        have V : Aside (y.f0 - a1 = v) := hgv
        clear hgv
        by_cases hyx : v = 0
        · go_wp2_with (first | (go_at_call 43; refine hcall.mono ?_; rintro e w' ⟨rfl, hb'⟩) | (go_at_fn 43; refine hcall.mono ?_; rintro e w' ⟨rfl, hb'⟩))
          go_ret2
          refine ⟨?_, hb'⟩
          have : y.f0 = a1 := by have := V.out; omega
          rw [← FIN.out, Y.out]; simp [hn, hyx, this]
        · go_wp2_with (first | (go_at_call 43; refine hcall.mono ?_; rintro e w' ⟨rfl, hb'⟩) | (go_at_fn 43; refine hcall.mono ?_; rintro e w' ⟨rfl, hb'⟩))
          go_ret2
          refine ⟨?_, hb'⟩
          have : ¬ y.f0 = a1 := by have := V.out; omega
          rw [← FIN.out, Y.out]; simp [hn, hyx, this]
      · go_wp2
        go_ret2
        exact ⟨by rw [← FIN.out]; simp [hn], BW.out⟩

/-! ### scale_step: function 29 -/
def scale_step.f (k : Nat) (l0 : List (S40)) (a1 : Int) : Option (Int) := (record_Table.f k l0).bind fun bt165 => ((api_Leap_int.f bt165.1 a1 43).bind fun bt172 => (if bt172.2 = true then (if 0 ≤ bt172.1 then (if bt172.1 < (bt165.1.length : Int) then (some ((rd_T54 bt165.1 bt172.1).f1)) else (none)) else (none)) else (some 0)))
theorem scale_step.mono : ∀ a0 a1 k, LeO (scale_step.f k a0 a1) (scale_step.f (k + 1) a0 a1) := by
  intro a0 a1 k
  unfold scale_step.f
  repeat' first
      | (with_reducible exact record_Table.mono _ _)
      | (with_reducible exact LeO.refl _)
      | (with_reducible exact LeO.none _)
      | (with_reducible refine LeO.ite ?_ ?_)
      | (with_reducible refine LeO.bind ?_ (fun _ => ?_))
      | exact record_Table.mono _ _
      | exact LeO.none _
      | refine LeO.ite ?_ ?_
      | refine LeO.bind ?_ (fun _ => ?_)
set_option maxHeartbeats 8000000 in
set_option maxRecDepth 100000 in
theorem scale_step.calls (k : Nat) (A0 : Option Addr) (c0 : Nat) (l0 : List (S40)) (a1 : Int) (r : Int) (w : World) (hr0 : Kd.C k40 w A0 l0.length l0) (hc0 : l0.length ≤ c0) (h : scale_step.f k l0 a1 = some r) :
    Calls Try.prog 29 #[.slice A0 l0.length c0, .int .i64 a1] w fun e w' => e = .returned (.int .i64 r) ∧ Below w.heap.size w w' := by
  have hu48 := Try.underlying48
  have HR0 := Aside0.mk hr0
  have HC0 := Aside0.mk hc0
  clear hr0 hc0
  have HB := Aside0.mk (Below.refl w.heap.size w)
  have H : ((record_Table.f k l0).bind fun bt165 => ((api_Leap_int.f bt165.1 a1 43).bind fun bt172 => (if bt172.2 = true then (if 0 ≤ bt172.1 then (if bt172.1 < (bt165.1.length : Int) then (some ((rd_T54 bt165.1 bt172.1).f1)) else (none)) else (none)) else (some 0)))) = some r := h
  clear h
  replace H := Option.bind_eq_some_iff.mp H
  obtain ⟨⟨t165, t168, t169, t170⟩, A30, H⟩ := H
  replace H : ((api_Leap_int.f t165 a1 43).bind fun bt172 => (if bt172.2 = true then (if 0 ≤ bt172.1 then (if bt172.1 < (t165.length : Int) then (some ((rd_T54 t165 bt172.1).f1)) else (none)) else (none)) else (some 0))) = some r := H
  have A3 := Aside0.mk A30
  clear A30
  replace H := Option.bind_eq_some_iff.mp H
  obtain ⟨⟨t172, t173⟩, A40, H⟩ := H
  replace H : (if t173 = true then (if 0 ≤ t172 then (if t172 < (t165.length : Int) then (some ((rd_T54 t165 t172).f1)) else (none)) else (none)) else (some 0)) = some r := H
  have A4 := Aside0.mk A40
  clear A40
  by_cases c5 : t173 = true
  · subst c5
    have H1 : (if 0 ≤ t172 then (if t172 < (t165.length : Int) then (some ((rd_T54 t165 t172).f1)) else (none)) else (none)) = some r := by rw [if_pos rfl] at H; exact H
    clear H
    have H := H1
    clear H1
    by_cases c6 : 0 ≤ t172
    · rw [if_pos c6] at H
      have c6b0 : decide (0 ≤ t172) = true := decide_eq_true c6
      clear c6
      by_cases c7 : t172 < (t165.length : Int)
      · rw [if_pos c7] at H
        have c7b0 : decide (t172 < (t165.length : Int)) = true := decide_eq_true c7
        clear c7
        obtain rfl := Option.some.inj H
        go_enter Try.func29, Try.ntmps29
        go_wp2_with (first | ((with_reducible refine gate_callee (f := 41) rfl ?_); refine goesL_ (some 11) rfl rfl Try.func41 (by kernel_rfl) rfl #[.slice A0 l0.length c0] rfl (by (try simp only [List.map_toArray, List.map_cons, List.map_nil]); first | done | rfl | (simp only [List.length_drop, List.length_take]; rfl)) ?_; (with_reducible refine (record_Table.calls k _ _ l0 t165 t168 t169 t170 _ ?side1 ?side2 A3.out).mono ?_); (case side1 => repeat (first | exact HR0.out | (with_reducible refine Kd.C_alloc ?_ _) | (with_reducible refine Kd.C_drewN ?_ _) | (with_reducible refine Kd.C_drew ?_))); (case side2 => exact HC0.out); rintro e w8 ⟨v166, rfl, ho0, hb⟩; refine ⟨_, rfl, ?_⟩; have n0_ := Aside0.mk (Kd.R_lower ho0 (below_size (by repeat (first | (with_reducible first | exact HB.out | apply below_alloc | apply pw_below_drewN | apply below_drew1) | exact HB.out)))); have n1_ := Aside0.mk (below_step (by repeat (first | (with_reducible first | exact HB.out | apply below_alloc | apply pw_below_drewN | apply below_drew1) | exact HB.out)) hb); clear HB; have HO167 := n0_; have HB := n1_; clear n0_ n1_; (try clear hb); (try clear hb2); (try clear hk); (try clear hi); (try clear ho0)) | ((with_reducible refine gate_dst (N := 5) rfl ?_); refine box_event ?hg (N := 5) ?hd (cs := #[.slice none 0 0, .bool false, .int .i64 0]) (t := 48) ?hr ?_; (case hd => rfl); (case hg => rfl); (case hr => first | (go_simp; done) | (go_simp; rfl)); intro gb171 hg w9 hbox hb; have n0_ := Aside0.mk (Kd.R_below (by (with_reducible repeat (first | apply Kd.R_alloc | apply Kd.R_drewN | apply Kd.R_drew)); exact HO167.out) hb); have n1_ := Aside0.mk (below_step (by repeat (first | (with_reducible first | exact HB.out | apply below_alloc | apply pw_below_drewN | apply below_drew1) | exact HB.out)) hb); have n2_ := Aside0.mk (hbox); have n3_ := Aside0.mk ((by rw [hg]; exact (below_size (by repeat (first | (with_reducible first | exact HB.out | apply below_alloc | apply pw_below_drewN | apply below_drew1) | exact HB.out))) : w.heap.size ≤ gb171)); have n4_ := Aside0.mk ((by rw [hg]; exact (below_size (by repeat (first | (with_reducible first | exact HB.out | apply below_alloc | apply pw_below_drewN | apply below_drew1) | exact HB.out))) : w.heap.size ≤ gb171)); clear HO167; clear HB; have HO167 := n0_; have HB := n1_; have BK171 := n2_; have GW171 := n3_; have GE171 := n4_; clear n0_ n1_ n2_ n3_ n4_; clear hb hbox hg; obtain ⟨Ao10, co10, eo10⟩ := Kd.R_slice HO167.out; subst eo10; have hcz11_0 : w9.cell? ⟨gb171, 0, none⟩ = some (.slice none 0 0) := (blk_cell BK171.out 0).trans rfl; have hcz11_1 : w9.cell? ⟨gb171, 1, none⟩ = some (.bool false) := (blk_cell BK171.out 1).trans rfl; have hcz11_2 : w9.cell? ⟨gb171, 2, none⟩ = some (.int .i64 0) := (blk_cell BK171.out 2).trans rfl; have hfz11_0 := blk_frozen BK171.out 0; have hfz11_1 := blk_frozen BK171.out 1; have hfz11_2 := blk_frozen BK171.out 2) | ((with_reducible refine gate_callee (f := 42) rfl ?_); refine goesL_ (some 18) rfl rfl Try.func42 (by kernel_rfl) rfl #[.slice Ao10 t165.length co10, .int .i64 a1, .func (.func 43) #[] #[]] rfl (by (try simp only [List.map_toArray, List.map_cons, List.map_nil]); first | done | rfl | (simp only [List.length_drop, List.length_take]; rfl)) ?_; (with_reducible refine (api_Leap_int.calls _ _ t165 a1 43 t172 true _ ?side1 ?side2 A4.out).mono ?_); (case side1 => refine (Kd.R_reads' (e := 54) (base := w.heap.size) (ok := fun k_ => True) (n := t165.length) (c := co10) ?_).2.2; exact (by (with_reducible repeat (first | apply Kd.R_alloc | apply Kd.R_drewN | apply Kd.R_drew)); exact (Kd.R_mono (Kd.R_far (p := ⟨gb171, 2, none⟩) (Kd.R_far (p := ⟨gb171, 1, none⟩) (Kd.R_far (p := ⟨gb171, 0, none⟩) (Kd.R_types HO167.out BK171.out (by decide)) (fun _ hk => hk.2) (.slice Ao10 t165.length co10)) (fun _ hk => hk.2) (.bool t168)) (fun _ hk => hk.2) (.int .i64 t169)) (fun _ h_ => h_.1)))); (case side2 => exact (Kd.R_reads' HO167.out).2.1); rintro e w12 ⟨rfl, hb⟩; refine ⟨_, rfl, ?_⟩; have n0_ := Aside0.mk (Kd.R_below (by (with_reducible repeat (first | apply Kd.R_alloc | apply Kd.R_drewN | apply Kd.R_drew)); exact (Kd.R_mono (Kd.R_far (p := ⟨gb171, 2, none⟩) (Kd.R_far (p := ⟨gb171, 1, none⟩) (Kd.R_far (p := ⟨gb171, 0, none⟩) (Kd.R_types HO167.out BK171.out (by decide)) (fun _ hk => hk.2) (.slice Ao10 t165.length co10)) (fun _ hk => hk.2) (.bool t168)) (fun _ hk => hk.2) (.int .i64 t169)) (fun _ h_ => h_.1))) hb); have n1_ := Aside0.mk (blk_below (g := gb171) (o := .cells #[.slice Ao10 t165.length co10, .bool t168, .int .i64 t169] 48 (0, 0)) (by (with_reducible repeat (first | refine blk_drewN ?_ _ | refine blk_drew ?_ | refine blk_alloc ?_ _)); refine blk_put (cs := #[.slice Ao10 t165.length co10, .bool t168, .int .i64 0]) ?_ 2 _ rfl; (with_reducible repeat (first | refine blk_drewN ?_ _ | refine blk_drew ?_ | refine blk_alloc ?_ _)); refine blk_put (cs := #[.slice Ao10 t165.length co10, .bool false, .int .i64 0]) ?_ 1 _ rfl; (with_reducible repeat (first | refine blk_drewN ?_ _ | refine blk_drew ?_ | refine blk_alloc ?_ _)); refine blk_put (cs := #[.slice none 0 0, .bool false, .int .i64 0]) ?_ 0 _ rfl; (with_reducible repeat (first | refine blk_drewN ?_ _ | refine blk_drew ?_ | refine blk_alloc ?_ _)); exact BK171.out) hb); have n2_ := Aside0.mk (below_step (by repeat (first | (with_reducible first | exact HB.out | apply below_alloc | apply pw_below_drewN | apply below_drew1 | refine below_set ?_ GE171.out) | exact HB.out)) hb); clear HO167; clear BK171; clear HB; have HO167 := n0_; have BK171 := n1_; have HB := n2_; clear n0_ n1_ n2_; (try clear hb); (try clear hb2); (try clear hk); (try clear hi); have hcz13_0 : w12.cell? ⟨gb171, 0, none⟩ = some (.slice Ao10 t165.length co10) := (blk_cell BK171.out 0).trans rfl; have hcz13_1 : w12.cell? ⟨gb171, 1, none⟩ = some (.bool t168) := (blk_cell BK171.out 1).trans rfl; have hcz13_2 : w12.cell? ⟨gb171, 2, none⟩ = some (.int .i64 t169) := (blk_cell BK171.out 2).trans rfl; have hfz13_0 := blk_frozen BK171.out 0; have hfz13_1 := blk_frozen BK171.out 1; have hfz13_2 := blk_frozen BK171.out 2; have p174 : 0 ≤ (t172 : Int) := of_decide_eq_true (by first | (with_reducible assumption) | assumption); have q174 : t172 < (t165.length : Int) := of_decide_eq_true (by first | (with_reducible assumption) | assumption); obtain ⟨ad174, e174, hx174_0, hx174_1, hx174_2⟩ := at_T54 (Kd.R_reads' HO167.out).2.2 t172 p174 q174; cases e174; replace p174 := eq_true p174; replace q174 := eq_true q174))
        go_ret
        exact ⟨by first | rfl | (simp [errW_none, errW_some] <;> rfl) | (simp [*, errW_none, errW_some] <;> rfl), by repeat (first | (with_reducible first | exact HB.out | apply below_alloc | apply pw_below_drewN | apply below_drew1 | refine below_set ?_ GE171.out) | exact HB.out)⟩
      · rw [if_neg c7] at H
        exact absurd H (by simp)
    · rw [if_neg c6] at H
      exact absurd H (by simp)
  · replace c5 := Bool.eq_false_iff.mpr c5
    subst c5
    have H1 : (some 0) = some r := by rw [if_neg (show ¬ (false = true) by decide)] at H; exact H
    clear H
    have H := H1
    clear H1
    obtain rfl := Option.some.inj H
    go_enter Try.func29, Try.ntmps29
    go_wp2_with (first | ((with_reducible refine gate_callee (f := 41) rfl ?_); refine goesL_ (some 11) rfl rfl Try.func41 (by kernel_rfl) rfl #[.slice A0 l0.length c0] rfl (by (try simp only [List.map_toArray, List.map_cons, List.map_nil]); first | done | rfl | (simp only [List.length_drop, List.length_take]; rfl)) ?_; (with_reducible refine (record_Table.calls k _ _ l0 t165 t168 t169 t170 _ ?side1 ?side2 A3.out).mono ?_); (case side1 => repeat (first | exact HR0.out | (with_reducible refine Kd.C_alloc ?_ _) | (with_reducible refine Kd.C_drewN ?_ _) | (with_reducible refine Kd.C_drew ?_))); (case side2 => exact HC0.out); rintro e w14 ⟨v166, rfl, ho0, hb⟩; refine ⟨_, rfl, ?_⟩; have n0_ := Aside0.mk (Kd.R_lower ho0 (below_size (by repeat (first | (with_reducible first | exact HB.out | apply below_alloc | apply pw_below_drewN | apply below_drew1) | exact HB.out)))); have n1_ := Aside0.mk (below_step (by repeat (first | (with_reducible first | exact HB.out | apply below_alloc | apply pw_below_drewN | apply below_drew1) | exact HB.out)) hb); clear HB; have HO167 := n0_; have HB := n1_; clear n0_ n1_; (try clear hb); (try clear hb2); (try clear hk); (try clear hi); (try clear ho0)) | ((with_reducible refine gate_dst (N := 5) rfl ?_); refine box_event ?hg (N := 5) ?hd (cs := #[.slice none 0 0, .bool false, .int .i64 0]) (t := 48) ?hr ?_; (case hd => rfl); (case hg => rfl); (case hr => first | (go_simp; done) | (go_simp; rfl)); intro gb171 hg w15 hbox hb; have n0_ := Aside0.mk (Kd.R_below (by (with_reducible repeat (first | apply Kd.R_alloc | apply Kd.R_drewN | apply Kd.R_drew)); exact HO167.out) hb); have n1_ := Aside0.mk (below_step (by repeat (first | (with_reducible first | exact HB.out | apply below_alloc | apply pw_below_drewN | apply below_drew1) | exact HB.out)) hb); have n2_ := Aside0.mk (hbox); have n3_ := Aside0.mk ((by rw [hg]; exact (below_size (by repeat (first | (with_reducible first | exact HB.out | apply below_alloc | apply pw_below_drewN | apply below_drew1) | exact HB.out))) : w.heap.size ≤ gb171)); have n4_ := Aside0.mk ((by rw [hg]; exact (below_size (by repeat (first | (with_reducible first | exact HB.out | apply below_alloc | apply pw_below_drewN | apply below_drew1) | exact HB.out))) : w.heap.size ≤ gb171)); clear HO167; clear HB; have HO167 := n0_; have HB := n1_; have BK171 := n2_; have GW171 := n3_; have GE171 := n4_; clear n0_ n1_ n2_ n3_ n4_; clear hb hbox hg; obtain ⟨Ao16, co16, eo16⟩ := Kd.R_slice HO167.out; subst eo16; have hcz17_0 : w15.cell? ⟨gb171, 0, none⟩ = some (.slice none 0 0) := (blk_cell BK171.out 0).trans rfl; have hcz17_1 : w15.cell? ⟨gb171, 1, none⟩ = some (.bool false) := (blk_cell BK171.out 1).trans rfl; have hcz17_2 : w15.cell? ⟨gb171, 2, none⟩ = some (.int .i64 0) := (blk_cell BK171.out 2).trans rfl; have hfz17_0 := blk_frozen BK171.out 0; have hfz17_1 := blk_frozen BK171.out 1; have hfz17_2 := blk_frozen BK171.out 2) | ((with_reducible refine gate_callee (f := 42) rfl ?_); refine goesL_ (some 18) rfl rfl Try.func42 (by kernel_rfl) rfl #[.slice Ao16 t165.length co16, .int .i64 a1, .func (.func 43) #[] #[]] rfl (by (try simp only [List.map_toArray, List.map_cons, List.map_nil]); first | done | rfl | (simp only [List.length_drop, List.length_take]; rfl)) ?_; (with_reducible refine (api_Leap_int.calls _ _ t165 a1 43 t172 false _ ?side1 ?side2 A4.out).mono ?_); (case side1 => refine (Kd.R_reads' (e := 54) (base := w.heap.size) (ok := fun k_ => True) (n := t165.length) (c := co16) ?_).2.2; exact (by (with_reducible repeat (first | apply Kd.R_alloc | apply Kd.R_drewN | apply Kd.R_drew)); exact (Kd.R_mono (Kd.R_far (p := ⟨gb171, 2, none⟩) (Kd.R_far (p := ⟨gb171, 1, none⟩) (Kd.R_far (p := ⟨gb171, 0, none⟩) (Kd.R_types HO167.out BK171.out (by decide)) (fun _ hk => hk.2) (.slice Ao16 t165.length co16)) (fun _ hk => hk.2) (.bool t168)) (fun _ hk => hk.2) (.int .i64 t169)) (fun _ h_ => h_.1)))); (case side2 => exact (Kd.R_reads' HO167.out).2.1); rintro e w18 ⟨rfl, hb⟩; refine ⟨_, rfl, ?_⟩; have n0_ := Aside0.mk (Kd.R_below (by (with_reducible repeat (first | apply Kd.R_alloc | apply Kd.R_drewN | apply Kd.R_drew)); exact (Kd.R_mono (Kd.R_far (p := ⟨gb171, 2, none⟩) (Kd.R_far (p := ⟨gb171, 1, none⟩) (Kd.R_far (p := ⟨gb171, 0, none⟩) (Kd.R_types HO167.out BK171.out (by decide)) (fun _ hk => hk.2) (.slice Ao16 t165.length co16)) (fun _ hk => hk.2) (.bool t168)) (fun _ hk => hk.2) (.int .i64 t169)) (fun _ h_ => h_.1))) hb); have n1_ := Aside0.mk (blk_below (g := gb171) (o := .cells #[.slice Ao16 t165.length co16, .bool t168, .int .i64 t169] 48 (0, 0)) (by (with_reducible repeat (first | refine blk_drewN ?_ _ | refine blk_drew ?_ | refine blk_alloc ?_ _)); refine blk_put (cs := #[.slice Ao16 t165.length co16, .bool t168, .int .i64 0]) ?_ 2 _ rfl; (with_reducible repeat (first | refine blk_drewN ?_ _ | refine blk_drew ?_ | refine blk_alloc ?_ _)); refine blk_put (cs := #[.slice Ao16 t165.length co16, .bool false, .int .i64 0]) ?_ 1 _ rfl; (with_reducible repeat (first | refine blk_drewN ?_ _ | refine blk_drew ?_ | refine blk_alloc ?_ _)); refine blk_put (cs := #[.slice none 0 0, .bool false, .int .i64 0]) ?_ 0 _ rfl; (with_reducible repeat (first | refine blk_drewN ?_ _ | refine blk_drew ?_ | refine blk_alloc ?_ _)); exact BK171.out) hb); have n2_ := Aside0.mk (below_step (by repeat (first | (with_reducible first | exact HB.out | apply below_alloc | apply pw_below_drewN | apply below_drew1 | refine below_set ?_ GE171.out) | exact HB.out)) hb); clear HO167; clear BK171; clear HB; have HO167 := n0_; have BK171 := n1_; have HB := n2_; clear n0_ n1_ n2_; (try clear hb); (try clear hb2); (try clear hk); (try clear hi)))
    go_ret
    exact ⟨by first | rfl | (simp [errW_none, errW_some] <;> rfl) | (simp [*, errW_none, errW_some] <;> rfl), by repeat (first | (with_reducible first | exact HB.out | apply below_alloc | apply pw_below_drewN | apply below_drew1 | refine below_set ?_ GE171.out) | exact HB.out)⟩

/-! ### scale_Length: function 21 -/
def scale_Length.f (k : Nat) (l0 : List (S40)) (a1 : Int) : Option (Int × Int) := (scale_Known.f k l0).bind fun t175 => (if t175 = true then (if a1 < 730 then (some (0, 9)) else (if a1 > 2932896 then (some (0, 9)) else ((scale_step.f k l0 a1).bind fun t176 => (some (wrap64 (86400 + t176), 0))))) else (some (0, 1)))
theorem scale_Length.mono : ∀ a0 a1 k, LeO (scale_Length.f k a0 a1) (scale_Length.f (k + 1) a0 a1) := by
  intro a0 a1 k
  unfold scale_Length.f
  repeat' first
      | (with_reducible exact scale_Known.mono _ _)
      | (with_reducible exact scale_step.mono _ _ _)
      | (with_reducible exact LeO.refl _)
      | (with_reducible exact LeO.none _)
      | (with_reducible refine LeO.ite ?_ ?_)
      | (with_reducible refine LeO.bind ?_ (fun _ => ?_))
      | exact scale_Known.mono _ _
      | exact scale_step.mono _ _ _
      | exact LeO.none _
      | refine LeO.ite ?_ ?_
      | refine LeO.bind ?_ (fun _ => ?_)
set_option maxHeartbeats 8000000 in
set_option maxRecDepth 100000 in
theorem scale_Length.calls (k : Nat) (A0 : Option Addr) (c0 : Nat) (l0 : List (S40)) (a1 : Int) (r1 : Int) (r2 : Int) (w : World) (hr0 : Kd.C k40 w A0 l0.length l0) (hc0 : l0.length ≤ c0) (h : scale_Length.f k l0 a1 = some (r1, r2)) :
    Calls Try.prog 21 #[.slice A0 l0.length c0, .int .i64 a1] w fun e w' => e = .returned (.tuple #[.int .i64 r1, .int .i64 r2]) ∧ Below w.heap.size w w' := by
  have HR0 := Aside0.mk hr0
  have HC0 := Aside0.mk hc0
  clear hr0 hc0
  have HB := Aside0.mk (Below.refl w.heap.size w)
  have H : ((scale_Known.f k l0).bind fun t175 => (if t175 = true then (if a1 < 730 then (some (0, 9)) else (if a1 > 2932896 then (some (0, 9)) else ((scale_step.f k l0 a1).bind fun t176 => (some (wrap64 (86400 + t176), 0))))) else (some (0, 1)))) = some (r1, r2) := h
  clear h
  replace H := Option.bind_eq_some_iff.mp H
  obtain ⟨t175, A30, H⟩ := H
  replace H : (if t175 = true then (if a1 < 730 then (some (0, 9)) else (if a1 > 2932896 then (some (0, 9)) else ((scale_step.f k l0 a1).bind fun t176 => (some (wrap64 (86400 + t176), 0))))) else (some (0, 1))) = some (r1, r2) := H
  have A3 := Aside0.mk A30
  clear A30
  by_cases c4 : t175 = true
  · subst c4
    have H1 : (if a1 < 730 then (some (0, 9)) else (if a1 > 2932896 then (some (0, 9)) else ((scale_step.f k l0 a1).bind fun t176 => (some (wrap64 (86400 + t176), 0))))) = some (r1, r2) := by rw [if_pos rfl] at H; exact H
    clear H
    have H := H1
    clear H1
    by_cases c5 : a1 < 730
    · rw [if_pos c5] at H
      have c5b0 : decide (a1 < 730) = true := decide_eq_true c5
      clear c5
      simp only [Option.some.injEq, Prod.mk.injEq] at H
      obtain ⟨rfl, rfl⟩ := H
      go_enter Try.func21, Try.ntmps21
      go_wp2_with (first | ((with_reducible refine gate_callee (f := 28) rfl ?_); refine goesL_ (some 8) rfl rfl Try.func28 (by kernel_rfl) rfl #[.slice A0 l0.length c0] rfl (by (try simp only [List.map_toArray, List.map_cons, List.map_nil]); first | done | rfl | (simp only [List.length_drop, List.length_take]; rfl)) ?_; (with_reducible refine (scale_Known.calls k _ _ l0 true _ ?side1 ?side2 A3.out).mono ?_); (case side1 => repeat (first | exact HR0.out | (with_reducible refine Kd.C_alloc ?_ _) | (with_reducible refine Kd.C_drewN ?_ _) | (with_reducible refine Kd.C_drew ?_))); (case side2 => exact HC0.out); rintro e w6 ⟨rfl, hb⟩; refine ⟨_, rfl, ?_⟩; have n0_ := Aside0.mk (below_step (by repeat (first | (with_reducible first | exact HB.out | apply below_alloc | apply pw_below_drewN | apply below_drew1) | exact HB.out)) hb); clear HB; have HB := n0_; clear n0_; (try clear hb); (try clear hb2); (try clear hk); (try clear hi)))
      go_ret2
      exact ⟨by first | rfl | (simp [errW_none, errW_some] <;> rfl) | (simp [*, errW_none, errW_some] <;> rfl), by repeat (first | (with_reducible first | exact HB.out | apply below_alloc | apply pw_below_drewN | apply below_drew1) | exact HB.out)⟩
    · rw [if_neg c5] at H
      have c5b0 : decide (a1 < 730) = false := decide_eq_false c5
      clear c5
      by_cases c7 : a1 > 2932896
      · rw [if_pos c7] at H
        have c7b0 : decide (2932896 < a1) = true := decide_eq_true c7
        clear c7
        simp only [Option.some.injEq, Prod.mk.injEq] at H
        obtain ⟨rfl, rfl⟩ := H
        go_enter Try.func21, Try.ntmps21
        go_wp2_with (first | ((with_reducible refine gate_callee (f := 28) rfl ?_); refine goesL_ (some 8) rfl rfl Try.func28 (by kernel_rfl) rfl #[.slice A0 l0.length c0] rfl (by (try simp only [List.map_toArray, List.map_cons, List.map_nil]); first | done | rfl | (simp only [List.length_drop, List.length_take]; rfl)) ?_; (with_reducible refine (scale_Known.calls k _ _ l0 true _ ?side1 ?side2 A3.out).mono ?_); (case side1 => repeat (first | exact HR0.out | (with_reducible refine Kd.C_alloc ?_ _) | (with_reducible refine Kd.C_drewN ?_ _) | (with_reducible refine Kd.C_drew ?_))); (case side2 => exact HC0.out); rintro e w8 ⟨rfl, hb⟩; refine ⟨_, rfl, ?_⟩; have n0_ := Aside0.mk (below_step (by repeat (first | (with_reducible first | exact HB.out | apply below_alloc | apply pw_below_drewN | apply below_drew1) | exact HB.out)) hb); clear HB; have HB := n0_; clear n0_; (try clear hb); (try clear hb2); (try clear hk); (try clear hi)))
        go_ret2
        exact ⟨by first | rfl | (simp [errW_none, errW_some] <;> rfl) | (simp [*, errW_none, errW_some] <;> rfl), by repeat (first | (with_reducible first | exact HB.out | apply below_alloc | apply pw_below_drewN | apply below_drew1) | exact HB.out)⟩
      · rw [if_neg c7] at H
        have c7b0 : decide (2932896 < a1) = false := decide_eq_false c7
        clear c7
        replace H := Option.bind_eq_some_iff.mp H
        obtain ⟨t176, A90, H⟩ := H
        replace H : (some (wrap64 (86400 + t176), 0)) = some (r1, r2) := H
        have A9 := Aside0.mk A90
        clear A90
        simp only [Option.some.injEq, Prod.mk.injEq] at H
        obtain ⟨rfl, rfl⟩ := H
        go_enter Try.func21, Try.ntmps21
        go_wp2_with (first | ((with_reducible refine gate_callee (f := 28) rfl ?_); refine goesL_ (some 8) rfl rfl Try.func28 (by kernel_rfl) rfl #[.slice A0 l0.length c0] rfl (by (try simp only [List.map_toArray, List.map_cons, List.map_nil]); first | done | rfl | (simp only [List.length_drop, List.length_take]; rfl)) ?_; (with_reducible refine (scale_Known.calls k _ _ l0 true _ ?side1 ?side2 A3.out).mono ?_); (case side1 => repeat (first | exact HR0.out | (with_reducible refine Kd.C_alloc ?_ _) | (with_reducible refine Kd.C_drewN ?_ _) | (with_reducible refine Kd.C_drew ?_))); (case side2 => exact HC0.out); rintro e w10 ⟨rfl, hb⟩; refine ⟨_, rfl, ?_⟩; have n0_ := Aside0.mk (below_step (by repeat (first | (with_reducible first | exact HB.out | apply below_alloc | apply pw_below_drewN | apply below_drew1) | exact HB.out)) hb); clear HB; have HB := n0_; clear n0_; (try clear hb); (try clear hb2); (try clear hk); (try clear hi)) | ((with_reducible refine gate_callee (f := 29) rfl ?_); refine goesL_ (some 17) rfl rfl Try.func29 (by kernel_rfl) rfl #[.slice A0 l0.length c0, .int .i64 a1] rfl (by (try simp only [List.map_toArray, List.map_cons, List.map_nil]); first | done | rfl | (simp only [List.length_drop, List.length_take]; rfl)) ?_; (with_reducible refine (scale_step.calls k _ _ l0 a1 t176 _ ?side1 ?side2 A9.out).mono ?_); (case side1 => repeat (first | exact (Kd.C_below HR0.out HB.out) | (with_reducible refine Kd.C_alloc ?_ _) | (with_reducible refine Kd.C_drewN ?_ _) | (with_reducible refine Kd.C_drew ?_))); (case side2 => exact HC0.out); rintro e w11 ⟨rfl, hb⟩; refine ⟨_, rfl, ?_⟩; have n0_ := Aside0.mk (below_step (by repeat (first | (with_reducible first | exact HB.out | apply below_alloc | apply pw_below_drewN | apply below_drew1) | exact HB.out)) hb); clear HB; have HB := n0_; clear n0_; (try clear hb); (try clear hb2); (try clear hk); (try clear hi)))
        go_ret2
        exact ⟨by first | rfl | (simp [errW_none, errW_some] <;> rfl) | (simp [*, errW_none, errW_some] <;> rfl), by repeat (first | (with_reducible first | exact HB.out | apply below_alloc | apply pw_below_drewN | apply below_drew1) | exact HB.out)⟩
  · replace c4 := Bool.eq_false_iff.mpr c4
    subst c4
    have H1 : (some (0, 1)) = some (r1, r2) := by rw [if_neg (show ¬ (false = true) by decide)] at H; exact H
    clear H
    have H := H1
    clear H1
    simp only [Option.some.injEq, Prod.mk.injEq] at H
    obtain ⟨rfl, rfl⟩ := H
    go_enter Try.func21, Try.ntmps21
    go_wp2_with (first | ((with_reducible refine gate_callee (f := 28) rfl ?_); refine goesL_ (some 8) rfl rfl Try.func28 (by kernel_rfl) rfl #[.slice A0 l0.length c0] rfl (by (try simp only [List.map_toArray, List.map_cons, List.map_nil]); first | done | rfl | (simp only [List.length_drop, List.length_take]; rfl)) ?_; (with_reducible refine (scale_Known.calls k _ _ l0 false _ ?side1 ?side2 A3.out).mono ?_); (case side1 => repeat (first | exact HR0.out | (with_reducible refine Kd.C_alloc ?_ _) | (with_reducible refine Kd.C_drewN ?_ _) | (with_reducible refine Kd.C_drew ?_))); (case side2 => exact HC0.out); rintro e w12 ⟨rfl, hb⟩; refine ⟨_, rfl, ?_⟩; have n0_ := Aside0.mk (below_step (by repeat (first | (with_reducible first | exact HB.out | apply below_alloc | apply pw_below_drewN | apply below_drew1) | exact HB.out)) hb); clear HB; have HB := n0_; clear n0_; (try clear hb); (try clear hb2); (try clear hk); (try clear hi)))
    go_ret2
    exact ⟨by first | rfl | (simp [errW_none, errW_some] <;> rfl) | (simp [*, errW_none, errW_some] <;> rfl), by repeat (first | (with_reducible first | exact HB.out | apply below_alloc | apply pw_below_drewN | apply below_drew1) | exact HB.out)⟩

/-! ### record_Expiry: function 44 -/
def record_Expiry.f (k : Nat) (l0 : List (S40)) : Option (Int × Bool) := (record_leaps.f k l0).bind fun t177 => (if (t177.length : Int) < (l0.length : Int) then (if 0 ≤ (t177.length : Int) then (some ((rd_T40 l0 (t177.length : Int)).f0, true)) else (none)) else (some (0, false)))
theorem record_Expiry.mono : ∀ a0 k, LeO (record_Expiry.f k a0) (record_Expiry.f (k + 1) a0) := by
  intro a0 k
  unfold record_Expiry.f
  repeat' first
      | (with_reducible exact record_leaps.mono _ _)
      | (with_reducible exact LeO.refl _)
      | (with_reducible exact LeO.none _)
      | (with_reducible refine LeO.ite ?_ ?_)
      | (with_reducible refine LeO.bind ?_ (fun _ => ?_))
      | exact record_leaps.mono _ _
      | exact LeO.none _
      | refine LeO.ite ?_ ?_
      | refine LeO.bind ?_ (fun _ => ?_)
set_option maxHeartbeats 8000000 in
set_option maxRecDepth 100000 in
theorem record_Expiry.calls (k : Nat) (A0 : Option Addr) (c0 : Nat) (l0 : List (S40)) (r1 : Int) (r2 : Bool) (w : World) (hr0 : Kd.C k40 w A0 l0.length l0) (hc0 : l0.length ≤ c0) (h : record_Expiry.f k l0 = some (r1, r2)) :
    Calls Try.prog 44 #[.slice A0 l0.length c0] w fun e w' => e = .returned (.tuple #[.int .i64 r1, .bool r2]) ∧ Below w.heap.size w w' := by
  have HR0 := Aside0.mk hr0
  have HC0 := Aside0.mk hc0
  clear hr0 hc0
  have HB := Aside0.mk (Below.refl w.heap.size w)
  have H : ((record_leaps.f k l0).bind fun t177 => (if (t177.length : Int) < (l0.length : Int) then (if 0 ≤ (t177.length : Int) then (some ((rd_T40 l0 (t177.length : Int)).f0, true)) else (none)) else (some (0, false)))) = some (r1, r2) := h
  clear h
  replace H := Option.bind_eq_some_iff.mp H
  obtain ⟨t177, A20, H⟩ := H
  replace H : (if (t177.length : Int) < (l0.length : Int) then (if 0 ≤ (t177.length : Int) then (some ((rd_T40 l0 (t177.length : Int)).f0, true)) else (none)) else (some (0, false))) = some (r1, r2) := H
  have A2 := Aside0.mk A20
  clear A20
  by_cases c3 : (t177.length : Int) < (l0.length : Int)
  · rw [if_pos c3] at H
    have c3b0 : decide ((t177.length : Int) < (l0.length : Int)) = true := decide_eq_true c3
    have c3b1 : decide (t177.length < l0.length) = true := decide_eq_true (Int.ofNat_lt.mp c3)
    clear c3
    by_cases c4 : 0 ≤ (t177.length : Int)
    · rw [if_pos c4] at H
      have c4b0 : decide (0 ≤ (t177.length : Int)) = true := decide_eq_true c4
      have c4b1 : decide (0 ≤ t177.length) = true := decide_eq_true (by omega)
      clear c4
      simp only [Option.some.injEq, Prod.mk.injEq] at H
      obtain ⟨rfl, rfl⟩ := H
      go_enter Try.func44, Try.ntmps44
      go_wp2_with (first | ((with_reducible refine gate_callee (f := 45) rfl ?_); refine goesL_ (some 6) rfl rfl Try.func45 (by kernel_rfl) rfl #[.slice A0 l0.length c0] rfl (by (try simp only [List.map_toArray, List.map_cons, List.map_nil]); first | done | rfl | (simp only [List.length_drop, List.length_take]; rfl)) ?_; (with_reducible refine (record_leaps.calls k (fun k_ => k_ < w.heap.size) _ _ l0 t177 _ ?side1 A2.out).mono ?_); (case side1 => exact Kd.V_mk HC0.out (Kd.F_below (Kd.C_F k40_heap HR0.out) (by repeat (first | (with_reducible first | exact HB.out | apply below_alloc | apply pw_below_drewN | apply below_drew1) | exact HB.out)))); rintro e w5 ⟨v178, rfl, ho0, hb⟩; refine ⟨_, rfl, ?_⟩; have n0_ := Aside0.mk (Kd.V_lower (Kd.V_mono (ok' := fun k_ => True) ho0 (fun k_ hk_ => trivial)) (below_size (by repeat (first | (with_reducible first | exact HB.out | apply below_alloc | apply pw_below_drewN | apply below_drew1) | exact HB.out)))); have n1_ := Aside0.mk (below_step (by repeat (first | (with_reducible first | exact HB.out | apply below_alloc | apply pw_below_drewN | apply below_drew1) | exact HB.out)) hb); clear HB; have HO179 := n0_; have HB := n1_; clear n0_ n1_; (try clear hb); (try clear hb2); (try clear hk); (try clear hi); (try clear ho0); obtain ⟨Ao6, co6, eo6⟩ := Kd.V_slice HO179.out; subst eo6; have p180 : 0 ≤ ((t177.length : Int) : Int) := of_decide_eq_true (by first | (with_reducible assumption) | assumption); have q180 : (t177.length : Int) < (l0.length : Int) := of_decide_eq_true (by first | (with_reducible assumption) | assumption); obtain ⟨ad180, e180, hx180_0, hx180_1⟩ := at_T40 HR0.out (t177.length : Int) p180 q180; cases e180; replace hx180_0 := (HB.out.cell (World.block_lt_of_cell? w _ hx180_0)).trans hx180_0; replace hx180_1 := (HB.out.cell (World.block_lt_of_cell? w _ hx180_1)).trans hx180_1; (try simp only [Go.IntWalk.toNatUp] at hx180_0); (try simp only [Go.IntWalk.toNatUp] at hx180_1); replace p180 := eq_true p180; replace q180 := eq_true q180))
      go_ret2
      exact ⟨by first | rfl | (simp [errW_none, errW_some] <;> rfl) | (simp [*, errW_none, errW_some] <;> rfl), by repeat (first | (with_reducible first | exact HB.out | apply below_alloc | apply pw_below_drewN | apply below_drew1) | exact HB.out)⟩
    · rw [if_neg c4] at H
      exact absurd H (by simp)
  · rw [if_neg c3] at H
    have c3b0 : decide ((t177.length : Int) < (l0.length : Int)) = false := decide_eq_false c3
    have c3b1 : decide (t177.length < l0.length) = false := decide_eq_false (fun h => c3 (Int.ofNat_lt.mpr h))
    clear c3
    simp only [Option.some.injEq, Prod.mk.injEq] at H
    obtain ⟨rfl, rfl⟩ := H
    go_enter Try.func44, Try.ntmps44
    go_wp2_with (first | ((with_reducible refine gate_callee (f := 45) rfl ?_); refine goesL_ (some 6) rfl rfl Try.func45 (by kernel_rfl) rfl #[.slice A0 l0.length c0] rfl (by (try simp only [List.map_toArray, List.map_cons, List.map_nil]); first | done | rfl | (simp only [List.length_drop, List.length_take]; rfl)) ?_; (with_reducible refine (record_leaps.calls k (fun k_ => k_ < w.heap.size) _ _ l0 t177 _ ?side1 A2.out).mono ?_); (case side1 => exact Kd.V_mk HC0.out (Kd.F_below (Kd.C_F k40_heap HR0.out) (by repeat (first | (with_reducible first | exact HB.out | apply below_alloc | apply pw_below_drewN | apply below_drew1) | exact HB.out)))); rintro e w7 ⟨v178, rfl, ho0, hb⟩; refine ⟨_, rfl, ?_⟩; have n0_ := Aside0.mk (Kd.V_lower (Kd.V_mono (ok' := fun k_ => True) ho0 (fun k_ hk_ => trivial)) (below_size (by repeat (first | (with_reducible first | exact HB.out | apply below_alloc | apply pw_below_drewN | apply below_drew1) | exact HB.out)))); have n1_ := Aside0.mk (below_step (by repeat (first | (with_reducible first | exact HB.out | apply below_alloc | apply pw_below_drewN | apply below_drew1) | exact HB.out)) hb); clear HB; have HO179 := n0_; have HB := n1_; clear n0_ n1_; (try clear hb); (try clear hb2); (try clear hk); (try clear hi); (try clear ho0); obtain ⟨Ao8, co8, eo8⟩ := Kd.V_slice HO179.out; subst eo8))
    go_ret2
    exact ⟨by first | rfl | (simp [errW_none, errW_some] <;> rfl) | (simp [*, errW_none, errW_some] <;> rfl), by repeat (first | (with_reducible first | exact HB.out | apply below_alloc | apply pw_below_drewN | apply below_drew1) | exact HB.out)⟩

/-! ### scale_expired: function 31 -/
def scale_expired.f (k : Nat) (l0 : List (S40)) (a1 : Int) : Option (Bool) := (record_Expiry.f k l0).bind fun bt181 => (if bt181.2 = true then (some (decide (a1 ≥ bt181.1))) else (some false))
theorem scale_expired.mono : ∀ a0 a1 k, LeO (scale_expired.f k a0 a1) (scale_expired.f (k + 1) a0 a1) := by
  intro a0 a1 k
  unfold scale_expired.f
  repeat' first
      | (with_reducible exact record_Expiry.mono _ _)
      | (with_reducible exact LeO.refl _)
      | (with_reducible exact LeO.none _)
      | (with_reducible refine LeO.ite ?_ ?_)
      | (with_reducible refine LeO.bind ?_ (fun _ => ?_))
      | exact record_Expiry.mono _ _
      | exact LeO.none _
      | refine LeO.ite ?_ ?_
      | refine LeO.bind ?_ (fun _ => ?_)
set_option maxHeartbeats 8000000 in
set_option maxRecDepth 100000 in
theorem scale_expired.calls (k : Nat) (A0 : Option Addr) (c0 : Nat) (l0 : List (S40)) (a1 : Int) (r : Bool) (w : World) (hr0 : Kd.C k40 w A0 l0.length l0) (hc0 : l0.length ≤ c0) (h : scale_expired.f k l0 a1 = some r) :
    Calls Try.prog 31 #[.slice A0 l0.length c0, .int .i64 a1] w fun e w' => e = .returned (.bool r) ∧ Below w.heap.size w w' := by
  have HR0 := Aside0.mk hr0
  have HC0 := Aside0.mk hc0
  clear hr0 hc0
  have HB := Aside0.mk (Below.refl w.heap.size w)
  have H : ((record_Expiry.f k l0).bind fun bt181 => (if bt181.2 = true then (some (decide (a1 ≥ bt181.1))) else (some false))) = some r := h
  clear h
  replace H := Option.bind_eq_some_iff.mp H
  obtain ⟨⟨t181, t182⟩, A30, H⟩ := H
  replace H : (if t182 = true then (some (decide (a1 ≥ t181))) else (some false)) = some r := H
  have A3 := Aside0.mk A30
  clear A30
  by_cases c4 : t182 = true
  · subst c4
    have H1 : (some (decide (a1 ≥ t181))) = some r := by rw [if_pos rfl] at H; exact H
    clear H
    have H := H1
    clear H1
    obtain rfl := Option.some.inj H
    go_enter Try.func31, Try.ntmps31
    go_wp2_with (first | ((with_reducible refine gate_callee (f := 44) rfl ?_); refine goesL_ (some 9) rfl rfl Try.func44 (by kernel_rfl) rfl #[.slice A0 l0.length c0] rfl (by (try simp only [List.map_toArray, List.map_cons, List.map_nil]); first | done | rfl | (simp only [List.length_drop, List.length_take]; rfl)) ?_; (with_reducible refine (record_Expiry.calls k _ _ l0 t181 true _ ?side1 ?side2 A3.out).mono ?_); (case side1 => repeat (first | exact HR0.out | (with_reducible refine Kd.C_alloc ?_ _) | (with_reducible refine Kd.C_drewN ?_ _) | (with_reducible refine Kd.C_drew ?_))); (case side2 => exact HC0.out); rintro e w5 ⟨rfl, hb⟩; refine ⟨_, rfl, ?_⟩; have n0_ := Aside0.mk (below_step (by repeat (first | (with_reducible first | exact HB.out | apply below_alloc | apply pw_below_drewN | apply below_drew1) | exact HB.out)) hb); clear HB; have HB := n0_; clear n0_; (try clear hb); (try clear hb2); (try clear hk); (try clear hi)))
    go_ret
    exact ⟨by first | rfl | (simp [errW_none, errW_some] <;> rfl) | (simp [*, errW_none, errW_some] <;> rfl), by repeat (first | (with_reducible first | exact HB.out | apply below_alloc | apply pw_below_drewN | apply below_drew1) | exact HB.out)⟩
  · replace c4 := Bool.eq_false_iff.mpr c4
    subst c4
    have H1 : (some false) = some r := by rw [if_neg (show ¬ (false = true) by decide)] at H; exact H
    clear H
    have H := H1
    clear H1
    obtain rfl := Option.some.inj H
    go_enter Try.func31, Try.ntmps31
    go_wp2_with (first | ((with_reducible refine gate_callee (f := 44) rfl ?_); refine goesL_ (some 9) rfl rfl Try.func44 (by kernel_rfl) rfl #[.slice A0 l0.length c0] rfl (by (try simp only [List.map_toArray, List.map_cons, List.map_nil]); first | done | rfl | (simp only [List.length_drop, List.length_take]; rfl)) ?_; (with_reducible refine (record_Expiry.calls k _ _ l0 t181 false _ ?side1 ?side2 A3.out).mono ?_); (case side1 => repeat (first | exact HR0.out | (with_reducible refine Kd.C_alloc ?_ _) | (with_reducible refine Kd.C_drewN ?_ _) | (with_reducible refine Kd.C_drew ?_))); (case side2 => exact HC0.out); rintro e w6 ⟨rfl, hb⟩; refine ⟨_, rfl, ?_⟩; have n0_ := Aside0.mk (below_step (by repeat (first | (with_reducible first | exact HB.out | apply below_alloc | apply pw_below_drewN | apply below_drew1) | exact HB.out)) hb); clear HB; have HB := n0_; clear n0_; (try clear hb); (try clear hb2); (try clear hk); (try clear hi)))
    go_ret
    exact ⟨by first | rfl | (simp [errW_none, errW_some] <;> rfl) | (simp [*, errW_none, errW_some] <;> rfl), by repeat (first | (with_reducible first | exact HB.out | apply below_alloc | apply pw_below_drewN | apply below_drew1) | exact HB.out)⟩

/-! ### scale_begins: function 35 -/
-- by hand: wip/hand
/-- the steps of the leaps ahead of a day, from the first one on -/
def scale_begins.sum (d : Int) : List S54 → Int → Int
  | [], s => s
  | y :: ys, s => if y.f0 < d then scale_begins.sum d ys (wrap64 (s + y.f1)) else s
def scale_begins.f (k : Nat) (l0 : List (S40)) (a1 : Int) : Option (Int) := (record_Table.f k l0).bind fun bt => some (wrap64 (wrap64 (a1 * 86400) + scale_begins.sum a1 bt.1 0))
theorem scale_begins.mono : ∀ a0 a1 k, LeO (scale_begins.f k a0 a1) (scale_begins.f (k + 1) a0 a1) := by
  intro a0 a1 k
  unfold scale_begins.f
  exact LeO.bind (record_Table.mono _ _) (fun _ => LeO.refl _)
def scale_begins.intOf : Value → Int
  | .int _ n => n
  | _ => 0
theorem scale_begins.sum_drop (d : Int) (ys : List S54) (kk : Nat) (s : Int) (h : kk < ys.length) : scale_begins.sum d (ys.drop kk) s = if (rd_T54 ys ((kk : Nat) : Int)).f0 < d then scale_begins.sum d (ys.drop (kk + 1)) (wrap64 (s + (rd_T54 ys ((kk : Nat) : Int)).f1)) else s := by
  have e : rd_T54 ys (kk : Int) = ys[kk] := by unfold rd_T54; rw [Int.toNat_natCast]; simp [List.getD, h]
  rw [e, List.drop_eq_getElem_cons h]; rfl
theorem scale_begins.mid (w w9 : World) (gb : Nat) (Ao : Option Addr) (co : Nat) (ys : List S54) (b1 : Bool) (e1 : Int)
    (HO : Kd.R k54 54 w9 w.heap.size (fun _ => True) (.slice Ao ys.length co) ys) (BK : w9.heap[gb]? = some (.cells #[.slice none 0 0, .bool false, .int .i64 0] 48 (0, 0))) (HB : Below w.heap.size w w9) (GE : w.heap.size ≤ gb) :
    ∃ W3, W3 = ((w9.setCell ⟨gb, 0, none⟩ (.slice Ao ys.length co)).setCell ⟨gb, 1, none⟩ (.bool b1)).setCell ⟨gb, 2, none⟩ (.int .i64 e1) ∧ Kd.C k54 W3 Ao ys.length ys ∧ W3.cell? ⟨gb, 0, none⟩ = some (.slice Ao ys.length co) ∧ Below w.heap.size w W3 ∧ ys.length ≤ 9223372036854775807 := by
  have HC : Kd.C k54 (((w9.setCell ⟨gb, 0, none⟩ (.slice Ao ys.length co)).setCell ⟨gb, 1, none⟩ (.bool b1)).setCell ⟨gb, 2, none⟩ (.int .i64 e1)) Ao ys.length ys := by
    refine (Kd.R_reads' (e := 54) (base := w.heap.size) (ok := fun k_ => True) (n := ys.length) (c := co) ?_).2.2
    exact (Kd.R_mono (Kd.R_far (p := ⟨gb, 2, none⟩) (Kd.R_far (p := ⟨gb, 1, none⟩) (Kd.R_far (p := ⟨gb, 0, none⟩) (Kd.R_types HO BK (by decide)) (fun _ hk => hk.2) (.slice Ao ys.length co)) (fun _ hk => hk.2) (.bool b1)) (fun _ hk => hk.2) (.int .i64 e1)) (fun _ h_ => h_.1))
  refine ⟨_, rfl, HC, ?_, below_set (below_set (below_set HB GE) GE) GE, HC.2.1⟩
  have b := blk_put (cs' := #[.slice Ao ys.length co, .bool b1, .int .i64 e1]) (blk_put (cs' := #[.slice Ao ys.length co, .bool b1, .int .i64 0]) (blk_put (cs' := #[.slice Ao ys.length co, .bool false, .int .i64 0]) BK 0 (.slice Ao ys.length co) rfl) 1 (.bool b1) rfl) 2 (.int .i64 e1) rfl
  exact (blk_cell b 0).trans rfl
def scale_begins.J (A0 : Option Addr) (c0 : Nat) (l0 : List S40) (a1 : Int) (ys : List S54) (ok : Bool) (w : World) : Act → World → Prop := fun a' w' =>
  ∃ (gb : Nat) (Ao : Option Addr) (co kk : Nat) (s : Int) (u9 u10 u11 u12 u13 u14 u15 u16 u17 u18 u19 u20 u21 u22 u23 u24 u25 u26 u27 u28 u29 u30 u31 u32 u33 u34 u35 u36 u37 u38 u39 u40 u41 u42 : Value), a' = { tmps := #[.slice A0 l0.length c0, .int .i64 a1, undef, undef, .int .i64 0, .pointer (some ⟨gb, 0, none⟩), .bool ok, .int .i64 (kk : Nat), .int .i64 s, u9, u10, u11, u12, u13, u14, u15, u16, u17, u18, u19, u20, u21, u22, u23, u24, u25, u26, u27, u28, u29, u30, u31, u32, u33, u34, u35, u36, u37, u38, u39, u40, u41, u42], defers := [] } ∧ kk ≤ ys.length ∧ ys.length ≤ 9223372036854775807 ∧ w'.cell? ⟨gb, 0, none⟩ = some (.slice Ao ys.length co) ∧ Aside0 (Kd.C k54 w' Ao ys.length ys) ∧ Aside0 (Below w.heap.size w w') ∧ Aside0 (scale_begins.sum a1 (ys.drop kk) s = scale_begins.sum a1 ys 0)
set_option maxHeartbeats 8000000 in
set_option maxRecDepth 100000 in
theorem scale_begins.calls (k : Nat) (A0 : Option Addr) (c0 : Nat) (l0 : List (S40)) (a1 : Int) (r : Int) (w : World) (hr0 : Kd.C k40 w A0 l0.length l0) (hc0 : l0.length ≤ c0) (h : scale_begins.f k l0 a1 = some r) :
    Calls Try.prog 35 #[.slice A0 l0.length c0, .int .i64 a1] w fun e w' => e = .returned (.int .i64 r) ∧ Below w.heap.size w w' := by
  have hu38 := Try.underlying48
  have huL := Try.underlying54
  have HR0 := Aside0.mk hr0
  have HC0 := Aside0.mk hc0
  clear hr0 hc0
  unfold scale_begins.f at h
  obtain ⟨⟨ys, b1, e1, ok⟩, hT, h⟩ := Option.bind_eq_some_iff.mp h
  have HT := Aside0.mk hT
  have E := Option.some.inj h
  have FIN : Aside0 (∀ (s : Int), scale_begins.sum a1 ys 0 = s → wrap64 (wrap64 (a1 * 86400) + s) = r) := ⟨fun s hs => by rw [← hs]; exact E⟩
  clear hT h E
  go_enter Try.func35, Try.ntmps35
  go_wp2
  refine wp_scope_jumps 0 (scale_begins.J A0 c0 l0 a1 ys ok w) (fun a' _ => ys.length - (scale_begins.intOf (a'.tmps.getD 7 undef)).toNat) rfl ?_ ?_
  · go_wp2_with (first | ((with_reducible refine gate_callee (f := 41) rfl ?_); refine goesL_ (some 11) rfl rfl Try.func41 (by kernel_rfl) rfl #[.slice A0 l0.length c0] rfl (by (try simp only [List.map_toArray, List.map_cons, List.map_nil]); first | done | rfl) ?_; (with_reducible refine (record_Table.calls k _ _ l0 ys b1 e1 ok _ ?side1 ?side2 HT.out).mono ?_); (case side1 => exact HR0.out); (case side2 => exact HC0.out); rintro e w8 ⟨v181, rfl, ho0, hb⟩; refine ⟨_, rfl, ?_⟩; have HO182 := Aside0.mk ho0; have HB2 := Aside0.mk hb; clear hb ho0) | ((with_reducible refine gate_dst (N := 5) rfl ?_); refine box_event ?hg (N := 5) ?hd (cs := #[.slice none 0 0, .bool false, .int .i64 0]) (t := 48) ?hr ?_; (case hd => rfl); (case hg => rfl); (case hr => first | (go_simp; done) | (go_simp; rfl)); intro gb hg w9 hbox hb; have HO := Aside0.mk (Kd.R_below HO182.out hb); have HB3 := Aside0.mk (below_step HB2.out hb); have BK := Aside0.mk hbox; have GE := Aside0.mk ((by rw [hg]; exact below_size HB2.out) : w.heap.size ≤ gb); clear HO182 HB2 hb hbox hg; obtain ⟨Ao, co, eo⟩ := Kd.R_slice HO.out; subst eo; have hcz0 : w9.cell? ⟨gb, 0, none⟩ = some (.slice none 0 0) := (blk_cell BK.out 0).trans rfl; have hcz1 : w9.cell? ⟨gb, 1, none⟩ = some (.bool false) := (blk_cell BK.out 1).trans rfl; have hcz2 : w9.cell? ⟨gb, 2, none⟩ = some (.int .i64 0) := (blk_cell BK.out 2).trans rfl; have hfz0 := blk_frozen BK.out 0; have hfz1 := blk_frozen BK.out 1; have hfz2 := blk_frozen BK.out 2))
    clear hcz0 hcz1 hcz2 hfz0 hfz1 hfz2
    obtain ⟨W3, hW3, hC, hcell, hB, hlen⟩ := scale_begins.mid w w9 gb Ao co ys b1 e1 HO.out BK.out HB3.out GE.out
    rw [← hW3]
    have HC3 := Aside0.mk hC
    have HB4 := Aside0.mk hB
    clear hC hB HO BK HB3 GE hW3
    go_step3
    by_cases hlt : 0 < ys.length
    · obtain ⟨ad, e0, hx0, hx1, hx2⟩ := at_T54 HC3.out (((0 : Nat) : Int) : Int) (by omega) (by omega)
      cases e0
      simp only [Int.toNat_natCast] at hx0 hx1 hx2
      have hltz : (0 : Int) < (ys.length : Int) := by omega
      simp only [Nat.zero_mul] at hx0 hx1 hx2
      rw [show ad.add 0 = ad from rfl] at hx0 hx1 hx2
      have hsd := scale_begins.sum_drop a1 ys 0 0 hlt
      generalize hgy : rd_T54 ys ((0 : Nat) : Int) = y at hx0 hx1 hx2 hsd
      have Y := Aside0.mk hgy
      clear hgy
      have SD := Aside0.mk hsd
      clear hsd
      by_cases hd : y.f0 < a1
      · go_wp2
        try go_step3
        refine ⟨rfl, gb, some ad, co, 1, wrap64 y.f1, _, _, _, _, _, _, _, _, _, _, _, _, _, _, _, _, _, _, _, _, _, _, _, _, _, _, _, _, _, _, _, _, _, _, rfl, by omega, hlen, hcell, HC3, HB4, ⟨?_⟩⟩
        have q := SD.out; rw [if_pos (by omega), Int.zero_add] at q; exact q.symm
      · go_wp2
        simp only [Exit.jump]
        go_ret
        refine ⟨?_, HB4.out⟩
        have q := SD.out; rw [if_neg (by omega)] at q; have z := FIN.out 0 q; rw [Int.add_zero] at z; rw [z]; rfl
    · have hltz : ¬ (0 : Int) < (ys.length : Int) := by omega
      go_wp2
      simp only [Exit.jump]
      go_ret
      refine ⟨?_, HB4.out⟩
      have q : scale_begins.sum a1 ys 0 = 0 := by cases ys with | nil => rfl | cons x xs => exact absurd (Nat.succ_pos xs.length) hlt
      have z := FIN.out 0 q; rw [Int.add_zero] at z; rw [z]; rfl
  · rintro a' wr ⟨gb, Ao, co, kk, s, u9, u10, u11, u12, u13, u14, u15, u16, u17, u18, u19, u20, u21, u22, u23, u24, u25, u26, u27, u28, u29, u30, u31, u32, u33, u34, u35, u36, u37, u38, u39, u40, u41, u42, rfl, hkk, hlen, hcell, HC3, HB4, SUM⟩
    skip
    by_cases hlt : kk < ys.length
    · obtain ⟨ad, e0, hx0, hx1, hx2⟩ := at_T54 HC3.out (((kk : Nat) : Int) : Int) (by omega) (by omega)
      cases e0
      simp only [Int.toNat_natCast] at hx0 hx1 hx2
      have hltz : ((kk : Nat) : Int) < (ys.length : Int) := by omega
      have hsd := scale_begins.sum_drop a1 ys kk s hlt
      generalize hgy : rd_T54 ys ((kk : Nat) : Int) = y at hx0 hx1 hx2 hsd
      have Y := Aside0.mk hgy
      clear hgy
      have SD := Aside0.mk hsd
      clear hsd
      by_cases hd : y.f0 < a1
      · go_wp2
        try go_step3
        refine ⟨rfl, ⟨gb, some ad, co, kk + 1, wrap64 (s + y.f1), _, _, _, _, _, _, _, _, _, _, _, _, _, _, _, _, _, _, _, _, _, _, _, _, _, _, _, _, _, _, _, _, _, _, rfl, by omega, hlen, hcell, HC3, HB4, ⟨?_⟩⟩, ?_⟩
        · have q := SD.out; rw [if_pos (by omega)] at q; exact q.symm.trans SUM.out
        · simp [scale_begins.intOf]; omega
      · go_wp2
        simp only [Exit.jump]
        go_ret
        refine ⟨?_, HB4.out⟩
        have q := SD.out; rw [if_neg (by omega)] at q; rw [FIN.out s (SUM.out.symm.trans q)]; rfl
    · have hltz : ¬ ((kk : Nat) : Int) < (ys.length : Int) := by omega
      go_wp2
      simp only [Exit.jump]
      go_ret
      refine ⟨?_, HB4.out⟩
      have q := SUM.out; rw [List.drop_eq_nil_of_le (by omega)] at q; rw [FIN.out s q.symm]; rfl

/-! ### scale_Tai: function 25 -/
def scale_Tai.j0 : Nat → List (S40) → Int → Int → Int → Bool → Option (Int × Int)
  | 0, _, _, _, _, _ => none
  | k + 1, x0, x1, x2, x8, x21 => if x21 = true then (some (0, 9)) else (if x2 ≥ x8 then (some (0, 11)) else ((scale_begins.f k x0 x1).bind fun t185 => ((scale_expired.f k x0 (wrap64 (t185 + x2))).bind fun t186 => (if t186 = true then (some (0, 10)) else (some (wrap64 ((wrap64 (t185 + x2)) - 63072000), 0))))))
def scale_Tai.f (k : Nat) (l0 : List (S40)) (a1 : Int) (a2 : Int) : Option (Int × Int) := (scale_Length.f k l0 a1).bind fun bt183 => (if bt183.2 = 0 then (if a2 < 0 then (scale_Tai.j0 k l0 a1 a2 bt183.1 (decide (a2 < 0))) else (scale_Tai.j0 k l0 a1 a2 bt183.1 (decide (a2 > 86400)))) else (some (0, bt183.2)))
theorem scale_Tai.mono_l : ∀ k, (∀ y0 y1 y2 y3 y4, LeO (scale_Tai.j0 k y0 y1 y2 y3 y4) (scale_Tai.j0 (k + 1) y0 y1 y2 y3 y4))
  | 0 => fun _ _ _ _ _ r h => by simp [scale_Tai.j0] at h
  | k + 1 => by
    have ih0 := scale_Tai.mono_l k
    · intro y0 y1 y2 y3 y4
      unfold scale_Tai.j0
      repeat' first
      | (with_reducible exact ih0 _ _ _ _ _)
      | (with_reducible exact scale_Length.mono _ _ _)
      | (with_reducible exact scale_begins.mono _ _ _)
      | (with_reducible exact scale_expired.mono _ _ _)
      | (with_reducible exact LeO.refl _)
      | (with_reducible exact LeO.none _)
      | (with_reducible refine LeO.ite ?_ ?_)
      | (with_reducible refine LeO.bind ?_ (fun _ => ?_))
      | exact ih0 _ _ _ _ _
      | exact scale_Length.mono _ _ _
      | exact scale_begins.mono _ _ _
      | exact scale_expired.mono _ _ _
      | exact LeO.none _
      | refine LeO.ite ?_ ?_
      | refine LeO.bind ?_ (fun _ => ?_)
theorem scale_Tai.mono : ∀ a0 a1 a2 k, LeO (scale_Tai.f k a0 a1 a2) (scale_Tai.f (k + 1) a0 a1 a2) := by
  intro a0 a1 a2 k
  have ih0 := scale_Tai.mono_l k
  unfold scale_Tai.f
  repeat' first
      | (with_reducible exact ih0 _ _ _ _ _)
      | (with_reducible exact scale_Length.mono _ _ _)
      | (with_reducible exact scale_begins.mono _ _ _)
      | (with_reducible exact scale_expired.mono _ _ _)
      | (with_reducible exact LeO.refl _)
      | (with_reducible exact LeO.none _)
      | (with_reducible refine LeO.ite ?_ ?_)
      | (with_reducible refine LeO.bind ?_ (fun _ => ?_))
      | exact ih0 _ _ _ _ _
      | exact scale_Length.mono _ _ _
      | exact scale_begins.mono _ _ _
      | exact scale_expired.mono _ _ _
      | exact LeO.none _
      | refine LeO.ite ?_ ?_
      | refine LeO.bind ?_ (fun _ => ?_)
set_option maxHeartbeats 8000000 in
set_option maxRecDepth 100000 in
theorem scale_Tai.calls (k : Nat) (A0 : Option Addr) (c0 : Nat) (l0 : List (S40)) (a1 : Int) (a2 : Int) (r1 : Int) (r2 : Int) (w : World) (hr0 : Kd.C k40 w A0 l0.length l0) (hc0 : l0.length ≤ c0) (h : scale_Tai.f k l0 a1 a2 = some (r1, r2)) :
    Calls Try.prog 25 #[.slice A0 l0.length c0, .int .i64 a1, .int .i64 a2] w fun e w' => e = .returned (.tuple #[.int .i64 r1, .int .i64 r2]) ∧ Below w.heap.size w w' := by
  have HR0 := Aside0.mk hr0
  have HC0 := Aside0.mk hc0
  clear hr0 hc0
  have HB := Aside0.mk (Below.refl w.heap.size w)
  have H : ((scale_Length.f k l0 a1).bind fun bt183 => (if bt183.2 = 0 then (if a2 < 0 then (scale_Tai.j0 k l0 a1 a2 bt183.1 (decide (a2 < 0))) else (scale_Tai.j0 k l0 a1 a2 bt183.1 (decide (a2 > 86400)))) else (some (0, bt183.2)))) = some (r1, r2) := h
  clear h
  replace H := Option.bind_eq_some_iff.mp H
  obtain ⟨⟨t183, t184⟩, A40, H⟩ := H
  replace H : (if t184 = 0 then (if a2 < 0 then (scale_Tai.j0 k l0 a1 a2 t183 (decide (a2 < 0))) else (scale_Tai.j0 k l0 a1 a2 t183 (decide (a2 > 86400)))) else (some (0, t184))) = some (r1, r2) := H
  have A4 := Aside0.mk A40
  clear A40
  by_cases c5 : t184 = 0
  · rw [if_pos c5] at H
    have c5b0 : (t184 == 0) = true := beq_iff_eq.mpr c5
    have c5b1 : (t184 != 0) = false := bne_eq_false_iff_eq.mpr c5
    clear c5
    have HC6 := Aside0.mk H
    clear H
    go_enter Try.func25, Try.ntmps25
    go_upto_if 21 with (first | ((with_reducible refine gate_callee (f := 21) rfl ?_); refine goesL_ (some 14) rfl rfl Try.func21 (by kernel_rfl) rfl #[.slice A0 l0.length c0, .int .i64 a1] rfl (by (try simp only [List.map_toArray, List.map_cons, List.map_nil]); first | done | rfl | (simp only [List.length_drop, List.length_take]; rfl)) ?_; (with_reducible refine (scale_Length.calls k _ _ l0 a1 t183 t184 _ ?side1 ?side2 A4.out).mono ?_); (case side1 => repeat (first | exact HR0.out | (with_reducible refine Kd.C_alloc ?_ _) | (with_reducible refine Kd.C_drewN ?_ _) | (with_reducible refine Kd.C_drew ?_))); (case side2 => exact HC0.out); rintro e w7 ⟨rfl, hb⟩; refine ⟨_, rfl, ?_⟩; have n0_ := Aside0.mk (below_step (by repeat (first | (with_reducible first | exact HB.out | apply below_alloc | apply pw_below_drewN | apply below_drew1) | exact HB.out)) hb); clear HB; have HB := n0_; clear n0_; (try clear hb); (try clear hb2); (try clear hk); (try clear hi)))
    (try simp only [Act.put, List.setIfInBounds_toArray, List.set_cons_zero, List.set_cons_succ])
    go_cut [21] (fun v21 wc => ∃ (kq : Nat) (x21_5 : Bool), v21 = .bool x21_5 ∧ Aside0 (scale_Tai.j0 kq l0 a1 a2 t183 x21_5 = some (r1, r2)) ∧ Aside0 (kq ≤ k) ∧ Aside0 (Below w.heap.size w wc))
    case first =>
      have H := HC6.out
      clear HC6
      by_cases c8 : a2 < 0
      · rw [if_pos c8] at H
        have c8b0 : decide (a2 < 0) = true := decide_eq_true c8
        clear c8
        (first | rw [c8b0] | (simp only [i64_w, i32_w]; rw [c8b0]) | skip)
        have H' := Aside0.mk H
        clear H
        go_wp2
        go_meet
        case rel => exact ⟨_, (decide (a2 < 0)), (by first | rfl | (simp; done) | (simp [*]; done)), H', ⟨by first | omega | exact Nat.le_refl _⟩, ⟨by repeat (first | (with_reducible first | exact HB.out | apply below_alloc | apply pw_below_drewN | apply below_drew1) | exact HB.out)⟩⟩
      · rw [if_neg c8] at H
        have c8b0 : decide (a2 < 0) = false := decide_eq_false c8
        clear c8
        (first | rw [c8b0] | (simp only [i64_w, i32_w]; rw [c8b0]) | skip)
        have H' := Aside0.mk H
        clear H
        go_wp2
        go_meet
        case rel => exact ⟨_, (decide (a2 > 86400)), (by first | rfl | (simp; done) | (simp [*]; done)), H', ⟨by first | omega | exact Nat.le_refl _⟩, ⟨by repeat (first | (with_reducible first | exact HB.out | apply below_alloc | apply pw_below_drewN | apply below_drew1) | exact HB.out)⟩⟩
    case rest =>
      clear HC6
      try clear c2
      try clear p2
      try clear c5
      try clear c5b0
      try clear c5b1
      try clear c8
      try clear c8b0
      obtain ⟨kq, x21_5, rfl, HA, HJ5, HB⟩ := hcut
      cases kq with
      | zero => exact absurd HA.out (by simp [scale_Tai.j0])
      | succ kj5 =>
        have H := HA.out
        clear HA
        simp only [scale_Tai.j0] at H
        by_cases c9 : x21_5 = true
        · subst c9
          have H1 : (some (0, 9)) = some (r1, r2) := by rw [if_pos rfl] at H; exact H
          clear H
          have H := H1
          clear H1
          simp only [Option.some.injEq, Prod.mk.injEq] at H
          obtain ⟨rfl, rfl⟩ := H
          go_wp2
          go_ret2
          exact ⟨by first | rfl | (simp [errW_none, errW_some] <;> rfl) | (simp [*, errW_none, errW_some] <;> rfl), by repeat (first | (with_reducible first | exact HB.out | apply below_alloc | apply pw_below_drewN | apply below_drew1) | exact HB.out)⟩
        · replace c9 := Bool.eq_false_iff.mpr c9
          subst c9
          have H1 : (if a2 ≥ t183 then (some (0, 11)) else ((scale_begins.f kj5 l0 a1).bind fun t185 => ((scale_expired.f kj5 l0 (wrap64 (t185 + a2))).bind fun t186 => (if t186 = true then (some (0, 10)) else (some (wrap64 ((wrap64 (t185 + a2)) - 63072000), 0)))))) = some (r1, r2) := by rw [if_neg (show ¬ (false = true) by decide)] at H; exact H
          clear H
          have H := H1
          clear H1
          by_cases c10 : a2 ≥ t183
          · rw [if_pos c10] at H
            have c10b0 : decide (t183 ≤ a2) = true := decide_eq_true c10
            clear c10
            simp only [Option.some.injEq, Prod.mk.injEq] at H
            obtain ⟨rfl, rfl⟩ := H
            go_wp2
            go_ret2
            exact ⟨by first | rfl | (simp [errW_none, errW_some] <;> rfl) | (simp [*, errW_none, errW_some] <;> rfl), by repeat (first | (with_reducible first | exact HB.out | apply below_alloc | apply pw_below_drewN | apply below_drew1) | exact HB.out)⟩
          · rw [if_neg c10] at H
            have c10b0 : decide (t183 ≤ a2) = false := decide_eq_false c10
            clear c10
            replace H := Option.bind_eq_some_iff.mp H
            obtain ⟨t185, A110, H⟩ := H
            replace H : ((scale_expired.f kj5 l0 (wrap64 (t185 + a2))).bind fun t186 => (if t186 = true then (some (0, 10)) else (some (wrap64 ((wrap64 (t185 + a2)) - 63072000), 0)))) = some (r1, r2) := H
            have A11 := Aside0.mk A110
            clear A110
            replace H := Option.bind_eq_some_iff.mp H
            obtain ⟨t186, A120, H⟩ := H
            replace H : (if t186 = true then (some (0, 10)) else (some (wrap64 ((wrap64 (t185 + a2)) - 63072000), 0))) = some (r1, r2) := H
            have A12 := Aside0.mk A120
            clear A120
            by_cases c13 : t186 = true
            · subst c13
              have H1 : (some (0, 10)) = some (r1, r2) := by rw [if_pos rfl] at H; exact H
              clear H
              have H := H1
              clear H1
              simp only [Option.some.injEq, Prod.mk.injEq] at H
              obtain ⟨rfl, rfl⟩ := H
              go_wp2_with (first | ((with_reducible refine gate_callee (f := 35) rfl ?_); refine goesL_ (some 32) rfl rfl Try.func35 (by kernel_rfl) rfl #[.slice A0 l0.length c0, .int .i64 a1] rfl (by (try simp only [List.map_toArray, List.map_cons, List.map_nil]); first | done | rfl | (simp only [List.length_drop, List.length_take]; rfl)) ?_; (with_reducible refine (scale_begins.calls kj5 _ _ l0 a1 t185 _ ?side1 ?side2 A11.out).mono ?_); (case side1 => repeat (first | exact (Kd.C_below HR0.out HB.out) | (with_reducible refine Kd.C_alloc ?_ _) | (with_reducible refine Kd.C_drewN ?_ _) | (with_reducible refine Kd.C_drew ?_))); (case side2 => exact HC0.out); rintro e w14 ⟨rfl, hb⟩; refine ⟨_, rfl, ?_⟩; have n0_ := Aside0.mk (below_step (by repeat (first | (with_reducible first | exact HB.out | apply below_alloc | apply pw_below_drewN | apply below_drew1) | exact HB.out)) hb); clear HB; have HB := n0_; clear n0_; (try clear hb); (try clear hb2); (try clear hk); (try clear hi)) | ((with_reducible refine gate_callee (f := 31) rfl ?_); refine goesL_ (some 37) rfl rfl Try.func31 (by kernel_rfl) rfl #[.slice A0 l0.length c0, .int .i64 (wrap64 (t185 + a2))] rfl (by (try simp only [List.map_toArray, List.map_cons, List.map_nil]); first | done | rfl | (simp only [List.length_drop, List.length_take]; rfl)) ?_; (with_reducible refine (scale_expired.calls kj5 _ _ l0 (wrap64 (t185 + a2)) true _ ?side1 ?side2 A12.out).mono ?_); (case side1 => repeat (first | exact (Kd.C_below HR0.out HB.out) | (with_reducible refine Kd.C_alloc ?_ _) | (with_reducible refine Kd.C_drewN ?_ _) | (with_reducible refine Kd.C_drew ?_))); (case side2 => exact HC0.out); rintro e w15 ⟨rfl, hb⟩; refine ⟨_, rfl, ?_⟩; have n0_ := Aside0.mk (below_step (by repeat (first | (with_reducible first | exact HB.out | apply below_alloc | apply pw_below_drewN | apply below_drew1) | exact HB.out)) hb); clear HB; have HB := n0_; clear n0_; (try clear hb); (try clear hb2); (try clear hk); (try clear hi)))
              go_ret2
              exact ⟨by first | rfl | (simp [errW_none, errW_some] <;> rfl) | (simp [*, errW_none, errW_some] <;> rfl), by repeat (first | (with_reducible first | exact HB.out | apply below_alloc | apply pw_below_drewN | apply below_drew1) | exact HB.out)⟩
            · replace c13 := Bool.eq_false_iff.mpr c13
              subst c13
              have H1 : (some (wrap64 ((wrap64 (t185 + a2)) - 63072000), 0)) = some (r1, r2) := by rw [if_neg (show ¬ (false = true) by decide)] at H; exact H
              clear H
              have H := H1
              clear H1
              simp only [Option.some.injEq, Prod.mk.injEq] at H
              obtain ⟨rfl, rfl⟩ := H
              go_wp2_with (first | ((with_reducible refine gate_callee (f := 35) rfl ?_); refine goesL_ (some 32) rfl rfl Try.func35 (by kernel_rfl) rfl #[.slice A0 l0.length c0, .int .i64 a1] rfl (by (try simp only [List.map_toArray, List.map_cons, List.map_nil]); first | done | rfl | (simp only [List.length_drop, List.length_take]; rfl)) ?_; (with_reducible refine (scale_begins.calls kj5 _ _ l0 a1 t185 _ ?side1 ?side2 A11.out).mono ?_); (case side1 => repeat (first | exact (Kd.C_below HR0.out HB.out) | (with_reducible refine Kd.C_alloc ?_ _) | (with_reducible refine Kd.C_drewN ?_ _) | (with_reducible refine Kd.C_drew ?_))); (case side2 => exact HC0.out); rintro e w16 ⟨rfl, hb⟩; refine ⟨_, rfl, ?_⟩; have n0_ := Aside0.mk (below_step (by repeat (first | (with_reducible first | exact HB.out | apply below_alloc | apply pw_below_drewN | apply below_drew1) | exact HB.out)) hb); clear HB; have HB := n0_; clear n0_; (try clear hb); (try clear hb2); (try clear hk); (try clear hi)) | ((with_reducible refine gate_callee (f := 31) rfl ?_); refine goesL_ (some 37) rfl rfl Try.func31 (by kernel_rfl) rfl #[.slice A0 l0.length c0, .int .i64 (wrap64 (t185 + a2))] rfl (by (try simp only [List.map_toArray, List.map_cons, List.map_nil]); first | done | rfl | (simp only [List.length_drop, List.length_take]; rfl)) ?_; (with_reducible refine (scale_expired.calls kj5 _ _ l0 (wrap64 (t185 + a2)) false _ ?side1 ?side2 A12.out).mono ?_); (case side1 => repeat (first | exact (Kd.C_below HR0.out HB.out) | (with_reducible refine Kd.C_alloc ?_ _) | (with_reducible refine Kd.C_drewN ?_ _) | (with_reducible refine Kd.C_drew ?_))); (case side2 => exact HC0.out); rintro e w17 ⟨rfl, hb⟩; refine ⟨_, rfl, ?_⟩; have n0_ := Aside0.mk (below_step (by repeat (first | (with_reducible first | exact HB.out | apply below_alloc | apply pw_below_drewN | apply below_drew1) | exact HB.out)) hb); clear HB; have HB := n0_; clear n0_; (try clear hb); (try clear hb2); (try clear hk); (try clear hi)))
              go_ret2
              exact ⟨by first | rfl | (simp [errW_none, errW_some] <;> rfl) | (simp [*, errW_none, errW_some] <;> rfl), by repeat (first | (with_reducible first | exact HB.out | apply below_alloc | apply pw_below_drewN | apply below_drew1) | exact HB.out)⟩
  · rw [if_neg c5] at H
    have c5b0 : (t184 == 0) = false := beq_eq_false_iff_ne.mpr c5
    have c5b1 : (t184 != 0) = true := bne_iff_ne.mpr c5
    simp only [Option.some.injEq, Prod.mk.injEq] at H
    obtain ⟨rfl, rfl⟩ := H
    go_enter Try.func25, Try.ntmps25
    go_wp2_with (first | ((with_reducible refine gate_callee (f := 21) rfl ?_); refine goesL_ (some 14) rfl rfl Try.func21 (by kernel_rfl) rfl #[.slice A0 l0.length c0, .int .i64 a1] rfl (by (try simp only [List.map_toArray, List.map_cons, List.map_nil]); first | done | rfl | (simp only [List.length_drop, List.length_take]; rfl)) ?_; (with_reducible refine (scale_Length.calls k _ _ l0 a1 t183 t184 _ ?side1 ?side2 A4.out).mono ?_); (case side1 => repeat (first | exact HR0.out | (with_reducible refine Kd.C_alloc ?_ _) | (with_reducible refine Kd.C_drewN ?_ _) | (with_reducible refine Kd.C_drew ?_))); (case side2 => exact HC0.out); rintro e w18 ⟨rfl, hb⟩; refine ⟨_, rfl, ?_⟩; have n0_ := Aside0.mk (below_step (by repeat (first | (with_reducible first | exact HB.out | apply below_alloc | apply pw_below_drewN | apply below_drew1) | exact HB.out)) hb); clear HB; have HB := n0_; clear n0_; (try clear hb); (try clear hb2); (try clear hk); (try clear hi)))
    go_ret2
    exact ⟨by first | rfl | (simp [errW_none, errW_some] <;> rfl) | (simp [*, errW_none, errW_some] <;> rfl), by repeat (first | (with_reducible first | exact HB.out | apply below_alloc | apply pw_below_drewN | apply below_drew1) | exact HB.out)⟩

/-! ### posix_Tai: function 15 -/
def posix_Tai.f (k : Nat) (l0 : List (S40)) (a1 : Int) : Option (Int × Int) := (posix_Day.f a1).bind fun bt187 => ((scale_Tai.f k l0 bt187.1 bt187.2).bind fun bt189 => (some (bt189.1, bt189.2)))
theorem posix_Tai.mono : ∀ a0 a1 k, LeO (posix_Tai.f k a0 a1) (posix_Tai.f (k + 1) a0 a1) := by
  intro a0 a1 k
  unfold posix_Tai.f
  repeat' first
      | (with_reducible exact scale_Tai.mono _ _ _ _)
      | (with_reducible exact LeO.refl _)
      | (with_reducible exact LeO.none _)
      | (with_reducible refine LeO.ite ?_ ?_)
      | (with_reducible refine LeO.bind ?_ (fun _ => ?_))
      | exact scale_Tai.mono _ _ _ _
      | exact LeO.none _
      | refine LeO.ite ?_ ?_
      | refine LeO.bind ?_ (fun _ => ?_)
set_option maxHeartbeats 8000000 in
set_option maxRecDepth 100000 in
theorem posix_Tai.calls (k : Nat) (A0 : Option Addr) (c0 : Nat) (l0 : List (S40)) (a1 : Int) (r1 : Int) (r2 : Int) (w : World) (hr0 : Kd.C k40 w A0 l0.length l0) (hc0 : l0.length ≤ c0) (h : posix_Tai.f k l0 a1 = some (r1, r2)) :
    Calls Try.prog 15 #[.slice A0 l0.length c0, .int .i64 a1] w fun e w' => e = .returned (.tuple #[.int .i64 r1, .int .i64 r2]) ∧ Below w.heap.size w w' := by
  have HR0 := Aside0.mk hr0
  have HC0 := Aside0.mk hc0
  clear hr0 hc0
  have HB := Aside0.mk (Below.refl w.heap.size w)
  have H : ((posix_Day.f a1).bind fun bt187 => ((scale_Tai.f k l0 bt187.1 bt187.2).bind fun bt189 => (some (bt189.1, bt189.2)))) = some (r1, r2) := h
  clear h
  replace H := Option.bind_eq_some_iff.mp H
  obtain ⟨⟨t187, t188⟩, A30, H⟩ := H
  replace H : ((scale_Tai.f k l0 t187 t188).bind fun bt189 => (some (bt189.1, bt189.2))) = some (r1, r2) := H
  have A3 := Aside0.mk A30
  clear A30
  replace H := Option.bind_eq_some_iff.mp H
  obtain ⟨⟨t189, t190⟩, A40, H⟩ := H
  replace H : (some (t189, t190)) = some (r1, r2) := H
  have A4 := Aside0.mk A40
  clear A40
  simp only [Option.some.injEq, Prod.mk.injEq] at H
  obtain ⟨rfl, rfl⟩ := H
  go_enter Try.func15, Try.ntmps15
  go_wp2_with (first | ((with_reducible refine gate_callee (f := 11) rfl ?_); refine goesL_ (some 10) rfl rfl Try.func11 (by kernel_rfl) rfl #[.int .i64 a1] rfl (by (try simp only [List.map_toArray, List.map_cons, List.map_nil]); first | done | rfl | (simp only [List.length_drop, List.length_take]; rfl)) ?_; (with_reducible refine (posix_Day.calls a1 t187 t188 _ A3.out).mono ?_); rintro e w' ⟨rfl, ⟨nd, rfl⟩⟩; refine ⟨_, rfl, ?_⟩) | ((with_reducible refine gate_callee (f := 25) rfl ?_); refine goesL_ (some 16) rfl rfl Try.func25 (by kernel_rfl) rfl #[.slice A0 l0.length c0, .int .i64 t187, .int .i64 t188] rfl (by (try simp only [List.map_toArray, List.map_cons, List.map_nil]); first | done | rfl | (simp only [List.length_drop, List.length_take]; rfl)) ?_; (with_reducible refine (scale_Tai.calls k _ _ l0 t187 t188 t189 t190 _ ?side1 ?side2 A4.out).mono ?_); (case side1 => repeat (first | exact HR0.out | (with_reducible refine Kd.C_alloc ?_ _) | (with_reducible refine Kd.C_drewN ?_ _) | (with_reducible refine Kd.C_drew ?_))); (case side2 => exact HC0.out); rintro e w5 ⟨rfl, hb⟩; refine ⟨_, rfl, ?_⟩; have n0_ := Aside0.mk (below_step (by repeat (first | (with_reducible first | exact HB.out | apply below_alloc | apply pw_below_drewN | apply below_drew1) | exact HB.out)) hb); clear HB; have HB := n0_; clear n0_; (try clear hb); (try clear hb2); (try clear hk); (try clear hi)))
  go_ret2
  exact ⟨by first | rfl | (simp [errW_none, errW_some] <;> rfl) | (simp [*, errW_none, errW_some] <;> rfl), by repeat (first | (with_reducible first | exact HB.out | apply below_alloc | apply pw_below_drewN | apply below_drew1) | exact HB.out)⟩

/-! ### posix_Utc: function 13 -/
def posix_Utc.f (k : Nat) (l0 : List (S40)) (a1 : Int) : Option (Int × Int × Int) := (posix_Tai.f k l0 a1).bind fun bt191 => (if bt191.2 = 0 then ((posix_Day.f a1).bind fun bt193 => (some (bt193.1, bt193.2, 0))) else (some (0, 0, bt191.2)))
theorem posix_Utc.mono : ∀ a0 a1 k, LeO (posix_Utc.f k a0 a1) (posix_Utc.f (k + 1) a0 a1) := by
  intro a0 a1 k
  unfold posix_Utc.f
  repeat' first
      | (with_reducible exact posix_Tai.mono _ _ _)
      | (with_reducible exact LeO.refl _)
      | (with_reducible exact LeO.none _)
      | (with_reducible refine LeO.ite ?_ ?_)
      | (with_reducible refine LeO.bind ?_ (fun _ => ?_))
      | exact posix_Tai.mono _ _ _
      | exact LeO.none _
      | refine LeO.ite ?_ ?_
      | refine LeO.bind ?_ (fun _ => ?_)
set_option maxHeartbeats 8000000 in
set_option maxRecDepth 100000 in
theorem posix_Utc.calls (k : Nat) (A0 : Option Addr) (c0 : Nat) (l0 : List (S40)) (a1 : Int) (r1 : Int) (r2 : Int) (r3 : Int) (w : World) (hr0 : Kd.C k40 w A0 l0.length l0) (hc0 : l0.length ≤ c0) (h : posix_Utc.f k l0 a1 = some (r1, r2, r3)) :
    Calls Try.prog 13 #[.slice A0 l0.length c0, .int .i64 a1] w fun e w' => e = .returned (.tuple #[.int .i64 r1, .int .i64 r2, .int .i64 r3]) ∧ Below w.heap.size w w' := by
  have HR0 := Aside0.mk hr0
  have HC0 := Aside0.mk hc0
  clear hr0 hc0
  have HB := Aside0.mk (Below.refl w.heap.size w)
  have H : ((posix_Tai.f k l0 a1).bind fun bt191 => (if bt191.2 = 0 then ((posix_Day.f a1).bind fun bt193 => (some (bt193.1, bt193.2, 0))) else (some (0, 0, bt191.2)))) = some (r1, r2, r3) := h
  clear h
  replace H := Option.bind_eq_some_iff.mp H
  obtain ⟨⟨t191, t192⟩, A30, H⟩ := H
  replace H : (if t192 = 0 then ((posix_Day.f a1).bind fun bt193 => (some (bt193.1, bt193.2, 0))) else (some (0, 0, t192))) = some (r1, r2, r3) := H
  have A3 := Aside0.mk A30
  clear A30
  by_cases c4 : t192 = 0
  · rw [if_pos c4] at H
    have c4b0 : (t192 == 0) = true := beq_iff_eq.mpr c4
    have c4b1 : (t192 != 0) = false := bne_eq_false_iff_eq.mpr c4
    clear c4
    replace H := Option.bind_eq_some_iff.mp H
    obtain ⟨⟨t193, t194⟩, A50, H⟩ := H
    replace H : (some (t193, t194, 0)) = some (r1, r2, r3) := H
    have A5 := Aside0.mk A50
    clear A50
    simp only [Option.some.injEq, Prod.mk.injEq] at H
    obtain ⟨rfl, rfl, rfl⟩ := H
    go_enter Try.func13, Try.ntmps13
    go_wp2_with (first | ((with_reducible refine gate_callee (f := 15) rfl ?_); refine goesL_ (some 10) rfl rfl Try.func15 (by kernel_rfl) rfl #[.slice A0 l0.length c0, .int .i64 a1] rfl (by (try simp only [List.map_toArray, List.map_cons, List.map_nil]); first | done | rfl | (simp only [List.length_drop, List.length_take]; rfl)) ?_; (with_reducible refine (posix_Tai.calls k _ _ l0 a1 t191 t192 _ ?side1 ?side2 A3.out).mono ?_); (case side1 => repeat (first | exact HR0.out | (with_reducible refine Kd.C_alloc ?_ _) | (with_reducible refine Kd.C_drewN ?_ _) | (with_reducible refine Kd.C_drew ?_))); (case side2 => exact HC0.out); rintro e w6 ⟨rfl, hb⟩; refine ⟨_, rfl, ?_⟩; have n0_ := Aside0.mk (below_step (by repeat (first | (with_reducible first | exact HB.out | apply below_alloc | apply pw_below_drewN | apply below_drew1) | exact HB.out)) hb); clear HB; have HB := n0_; clear n0_; (try clear hb); (try clear hb2); (try clear hk); (try clear hi)) | ((with_reducible refine gate_callee (f := 11) rfl ?_); refine goesL_ (some 18) rfl rfl Try.func11 (by kernel_rfl) rfl #[.int .i64 a1] rfl (by (try simp only [List.map_toArray, List.map_cons, List.map_nil]); first | done | rfl | (simp only [List.length_drop, List.length_take]; rfl)) ?_; (with_reducible refine (posix_Day.calls a1 t193 t194 _ A5.out).mono ?_); rintro e w' ⟨rfl, ⟨nd, rfl⟩⟩; refine ⟨_, rfl, ?_⟩))
    go_ret3
    exact ⟨by first | rfl | (simp [errW_none, errW_some] <;> rfl) | (simp [*, errW_none, errW_some] <;> rfl), by repeat (first | (with_reducible first | exact HB.out | apply below_alloc | apply pw_below_drewN | apply below_drew1) | exact HB.out)⟩
  · rw [if_neg c4] at H
    have c4b0 : (t192 == 0) = false := beq_eq_false_iff_ne.mpr c4
    have c4b1 : (t192 != 0) = true := bne_iff_ne.mpr c4
    simp only [Option.some.injEq, Prod.mk.injEq] at H
    obtain ⟨rfl, rfl, rfl⟩ := H
    go_enter Try.func13, Try.ntmps13
    go_wp2_with (first | ((with_reducible refine gate_callee (f := 15) rfl ?_); refine goesL_ (some 10) rfl rfl Try.func15 (by kernel_rfl) rfl #[.slice A0 l0.length c0, .int .i64 a1] rfl (by (try simp only [List.map_toArray, List.map_cons, List.map_nil]); first | done | rfl | (simp only [List.length_drop, List.length_take]; rfl)) ?_; (with_reducible refine (posix_Tai.calls k _ _ l0 a1 t191 t192 _ ?side1 ?side2 A3.out).mono ?_); (case side1 => repeat (first | exact HR0.out | (with_reducible refine Kd.C_alloc ?_ _) | (with_reducible refine Kd.C_drewN ?_ _) | (with_reducible refine Kd.C_drew ?_))); (case side2 => exact HC0.out); rintro e w7 ⟨rfl, hb⟩; refine ⟨_, rfl, ?_⟩; have n0_ := Aside0.mk (below_step (by repeat (first | (with_reducible first | exact HB.out | apply below_alloc | apply pw_below_drewN | apply below_drew1) | exact HB.out)) hb); clear HB; have HB := n0_; clear n0_; (try clear hb); (try clear hb2); (try clear hk); (try clear hi)))
    go_ret3
    exact ⟨by first | rfl | (simp [errW_none, errW_some] <;> rfl) | (simp [*, errW_none, errW_some] <;> rfl), by repeat (first | (with_reducible first | exact HB.out | apply below_alloc | apply pw_below_drewN | apply below_drew1) | exact HB.out)⟩

end Go.Proofs.Ytlfnkamhokfeaaa.PAll
