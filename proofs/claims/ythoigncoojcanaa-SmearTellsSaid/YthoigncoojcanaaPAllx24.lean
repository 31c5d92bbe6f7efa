-- Written for this claim by wip/tools of this repo (after the kit's print; own contracts laid in).
import Derived.Test.YthoigncoojcanaaPAllx0
import Derived.Test.YthoigncoojcanaaShort
import Derived.Test.YthoigncoojcanaaPAllx21
import Derived.Test.YthoigncoojcanaaPAllx22
import Derived.Test.YthoigncoojcanaaPAllx23
namespace Go.Proofs.Ythoigncoojcanaa.PAll
open Go.RowKit Go.Proofs.YthoigncoojcanaaW.PrintWords Go.Proofs.YthoigncoojcanaaW.PrintLast Go.Proofs.YthoigncoojcanaaW.PrintMore
attribute [local go_sem] max2_int min2_int max_two min_two max_three min_three max_four min_four   -- for this text's walks alone
set_option linter.unusedVariables false
set_option linter.unusedSimpArgs false

/-! ### epactref25_noon: function 36 -/
def epactref25_noon.f (k : Nat) (l0 : List (S53)) (a1 : Int) : Option (Int) := (epactref25_bare.f l0).bind fun t580 => ((epactref22_Tai.f k t580 a1 43200).bind fun bt583 => (some bt583.1))
theorem epactref25_noon.mono : ∀ a0 a1 k, LeO (epactref25_noon.f k a0 a1) (epactref25_noon.f (k + 1) a0 a1) := by
 intro a0 a1 k
 unfold epactref25_noon.f
 repeat' first
   | (with_reducible exact epactref22_Tai.mono _ _ _ _)
   | (with_reducible exact LeO.refl _)
   | (with_reducible exact LeO.none _)
   | (with_reducible refine LeO.ite ?_ ?_)
   | (with_reducible refine LeO.bind ?_ (fun _ => ?_))
set_option maxHeartbeats 8000000 in
set_option maxRecDepth 100000 in
theorem epactref25_noon.calls (k : Nat) (A0 : Option Addr) (c0 : Nat) (l0 : List (S53)) (a1 : Int) (r : Int) (w : World) (hr0 : Kd.C k53 w A0 l0.length l0) (hc0 : l0.length ≤ c0) (h : epactref25_noon.f k l0 a1 = some r) :
  Calls Try.prog 36 #[.slice A0 l0.length c0, .int .i64 a1] w fun e w' => e = .returned (.int .i64 r) ∧ Below w.heap.size w w' := by
 have HR0 := Aside0.mk hr0
 have HC0 := Aside0.mk hc0
 clear hr0 hc0
 have HB := Aside0.mk (Below.refl w.heap.size w)
 have H : ((epactref25_bare.f l0).bind fun t580 => ((epactref22_Tai.f k t580 a1 43200).bind fun bt583 => (some bt583.1))) = some r := h
 clear h
 obtain ⟨t580, A3, H⟩ := bnd H
 try dsimp only at H
 obtain ⟨⟨t583, t584⟩, A4, H⟩ := bnd H
 try dsimp only at H
 obtain rfl := Option.some.inj H
 go_enter Try.func36, Try.ntmps36
 go_wp2_with (first | (refine gL (some 9) Try.func73 #[.slice A0 l0.length c0] ?_; (with_reducible refine (epactref25_bare.calls (fun k_ => k_ < w.heap.size) _ _ l0 t580 _ ?side1 A3.out).mono ?_); (case side1 => exact Kd.V_mk HC0.out (Kd.F_below (Kd.C_F k53_heap HR0.out) (by repeat (first | (with_reducible first | exact HB.out | apply below_alloc | apply pw_below_drewN | apply below_drew1) | exact HB.out)))); rintro e w5 ⟨v581, rfl, ho0, hb⟩; refine ⟨_, rfl, ?_⟩; have n0_ := Aside0.mk (Kd.V_lower (Kd.V_mono (ok' := fun k_ => True) ho0 (fun k_ hk_ => trivial)) (below_size (by repeat (first | (with_reducible first | exact HB.out | apply below_alloc | apply pw_below_drewN | apply below_drew1) | exact HB.out)))); replace HB := bs HB hb; have HO582 := n0_; clear n0_; (try clear hb); (try clear ho0); obtain ⟨Ao6, co6, eo6⟩ := Kd.V_slice HO582.out; subst eo6) | (refine gM (some 11) Try.func71 #[.slice Ao6 t580.length co6, .int .i64 a1, .int .i64 43200] (epactref22_Tai.calls k _ _ t580 a1 43200 t583 t584 _ ?side1 ?side2 A4.out) ?_; (case side1 => repeat (first | exact (Kd.V_reads' HO582.out).2.2 | (with_reducible refine Kd.C_alloc ?_ _) | (with_reducible refine Kd.C_drewN ?_ _) | (with_reducible refine Kd.C_drew ?_))); (case side2 => exact (Kd.V_reads' HO582.out).2.1); intro w7 hb; have n0_ := Aside0.mk (Kd.V_below (by (with_reducible repeat (first | apply Kd.V_alloc | apply Kd.V_drewN | apply Kd.V_drew)); exact HO582.out) hb); replace HB := bs HB hb; clear HO582; have HO582 := n0_; clear n0_; (try clear hb)))
 go_ret
 exact fi HB

/-! ### epactref25_days: function 48 -/
def epactref25_days.l0 : Nat → List Int → Int → List (S49) → Bool → Int → Option (List Int)
 | 0, _, _, _, _, _ => none
 | k + 1, x5, x6, x592000, x592001, x592002 => if x6 < (x592000.length : Int) then (if 0 ≤ x6 then (if x5.length < 17592186044416 then (epactref25_days.l0 k (x5 ++ [(rd_T49 x592000 x6).f0]) (wrap64 (x6 + 1)) x592000 x592001 x592002) else (none)) else (none)) else (some x5)
def epactref25_days.f (k : Nat) (l0 : List (S53)) : Option (List Int) := (epactref12_Table.f k l0).bind fun bt585 => (epactref25_days.l0 k ([] : List Int) 0 bt585.1 bt585.2.1 bt585.2.2.1)
theorem epactref25_days.mono_l : ∀ k, (∀ y0 y1 y2 y3 y4, LeO (epactref25_days.l0 k y0 y1 y2 y3 y4) (epactref25_days.l0 (k + 1) y0 y1 y2 y3 y4))
 | 0 => fun _ _ _ _ _ r h => by simp [epactref25_days.l0] at h
 | k + 1 => by
  have ih0 := epactref25_days.mono_l k
  ·intro y0 y1 y2 y3 y4
   unfold epactref25_days.l0
   repeat' first
   | (with_reducible exact ih0 _ _ _ _ _)
   | (with_reducible exact epactref12_Table.mono _ _)
   | (with_reducible exact LeO.refl _)
   | (with_reducible exact LeO.none _)
   | (with_reducible refine LeO.ite ?_ ?_)
   | (with_reducible refine LeO.bind ?_ (fun _ => ?_))
theorem epactref25_days.mono : ∀ a0 k, LeO (epactref25_days.f k a0) (epactref25_days.f (k + 1) a0) := by
 intro a0 k
 have ih0 := epactref25_days.mono_l k
 unfold epactref25_days.f
 repeat' first
   | (with_reducible exact ih0 _ _ _ _ _)
   | (with_reducible exact epactref12_Table.mono _ _)
   | (with_reducible exact LeO.refl _)
   | (with_reducible exact LeO.none _)
   | (with_reducible refine LeO.ite ?_ ?_)
   | (with_reducible refine LeO.bind ?_ (fun _ => ?_))
set_option maxHeartbeats 8000000 in
set_option maxRecDepth 100000 in
theorem epactref25_days.calls (k : Nat) (A0 : Option Addr) (c0 : Nat) (l0 : List (S53)) (r : List Int) (w : World) (hr0 : Kd.C k53 w A0 l0.length l0) (hc0 : l0.length ≤ c0) (h : epactref25_days.f k l0 = some r) :
  Calls Try.prog 48 #[.slice A0 l0.length c0] w fun e w' => ∃ v0_ : Value, e = .returned (v0_) ∧ Kd.R (Kd.int .i64) 3 w' w.heap.size (fun _ => True) v0_ r ∧ Below w.heap.size w w' := by
 have hu44 := Try.underlying44
 have HR0 := Aside0.mk hr0
 have HC0 := Aside0.mk hc0
 clear hr0 hc0
 have HB := Aside0.mk (Below.refl w.heap.size w)
 have H : ((epactref12_Table.f k l0).bind fun bt585 => (epactref25_days.l0 k ([] : List Int) 0 bt585.1 bt585.2.1 bt585.2.2.1)) = some r := h
 clear h
 obtain ⟨⟨t585, t588, t589, t590⟩, A2, H⟩ := bnd H
 try dsimp only at H
 have H' := Aside0.mk H
 clear H
 go_enter Try.func48, Try.ntmps48
 go_wp2_with (first | (refine gL (some 9) Try.func79 #[.slice A0 l0.length c0] ?_; (with_reducible refine (epactref12_Table.calls k _ _ l0 t585 t588 t589 t590 _ ?side1 ?side2 A2.out).mono ?_); (case side1 => exact ca HR0); (case side2 => exact HC0.out); rintro e w3 ⟨v586, rfl, ho0, hb⟩; refine ⟨_, rfl, ?_⟩; have HO587 := lw ho0 HB; replace HB := bs HB hb; (try clear hb); (try clear ho0)) | (refine bx 3 #[.slice none 0 0, .bool false, .int .i64 0] 44 ?_; intro gb591 hg w4 hbox hb; have n2_ := Aside0.mk (hbox); have GW591 := gw HB hg; have GE591 := gw HB hg; replace HO587 := rb HO587 hb; replace HB := bs HB hb; have BK591 := n2_; clear n2_; clear hb hbox hg; obtain ⟨Ao5, co5, eo5⟩ := Kd.R_slice HO587.out; subst eo5; have hcz6_0 := bc BK591 0; have hcz6_1 := bc BK591 1; have hcz6_2 := bc BK591 2; have hfz6_0 := bf BK591 0; have hfz6_1 := bf BK591 1; have hfz6_2 := bf BK591 2))
 go_loopg [5, 6] k (fun kq v5 v6 w' => ∃ (x5_1 : List Int) (x6_1 : Int), v6 = .int .i64 x6_1 ∧ Aside0 (epactref25_days.l0 kq x5_1 x6_1 t585 t588 t589 = some r) ∧ Aside0 (kq ≤ k) ∧ Aside0 (Kd.R (Kd.int .i64) 3 w' w.heap.size (fun _ => True) v5 x5_1) ∧ Aside0 (Kd.R k49 49 w' w.heap.size (fun _ => True) (.slice Ao5 t585.length co5) t585) ∧ Aside0 (w'.heap[gb591]? = some (.cells #[(.slice Ao5 t585.length co5), .bool t588, .int .i64 t589] 44 (0, 0))) ∧ Aside0 (Below w.heap.size w w'))
 case atStart => exact ⟨(([] : List Int)), (0), pr, H', ⟨Nat.le_refl _⟩, ⟨by first | exact Kd.R_nil _ _ _ _ _ | exact Kd.N_nil _ _ _ _ _ | exact Kd.V_nil _ _ _ _ _ | exact Kd.Q_nil _ _ _ _ _ | exact Kd.S_nil _ _ _ _ _⟩, ⟨by (with_reducible repeat (first | apply Kd.R_alloc | apply Kd.R_drewN | apply Kd.R_drew)); exact Kd.R_mono (Kd.R_far (p := ⟨gb591, 2, none⟩) (Kd.R_far (p := ⟨gb591, 1, none⟩) (Kd.R_far (p := ⟨gb591, 0, none⟩) (Kd.R_types HO587.out BK591.out (by decide)) (fun _ hk => hk.2) (.slice Ao5 t585.length co5)) (fun _ hk => hk.2) (.bool t588)) (fun _ hk => hk.2) (.int .i64 t589)) (fun _ hk => trivial)⟩, ⟨by (with_reducible repeat (first | refine blk_drewN ?_ _ | refine blk_drew ?_ | refine blk_alloc ?_ _)); refine blk_put (cs := #[.slice Ao5 t585.length co5, .bool t588, .int .i64 0]) ?_ 2 _ rfl; (with_reducible repeat (first | refine blk_drewN ?_ _ | refine blk_drew ?_ | refine blk_alloc ?_ _)); refine blk_put (cs := #[.slice Ao5 t585.length co5, .bool false, .int .i64 0]) ?_ 1 _ rfl; (with_reducible repeat (first | refine blk_drewN ?_ _ | refine blk_drew ?_ | refine blk_alloc ?_ _)); refine blk_put (cs := #[.slice none 0 0, .bool false, .int .i64 0]) ?_ 0 _ rfl; (with_reducible repeat (first | refine blk_drewN ?_ _ | refine blk_drew ?_ | refine blk_alloc ?_ _)); exact BK591.out⟩, ba HB⟩
 case round =>
  clear H'
  try clear p2
  try clear c4
  try clear hcz6_0
  try clear hcz6_1
  try clear hcz6_2
  try clear hfz6_0
  try clear hfz6_1
  try clear hfz6_2
  obtain ⟨x5_1, x6_1, rfl, HA, HK1, HO_5, HO_592000, BK591, HB⟩ := hrel
  cases gk with
  | zero => exact absurd HA.out (by simp [epactref25_days.l0])
  | succ k1 =>
   have H := HA.out
   clear HA
   simp only [epactref25_days.l0] at H
   by_cases c7 : x6_1 < (t585.length : Int)
   ·rw [if_pos c7] at H
    have c7b0 : decide (x6_1 < (t585.length : Int)) = true := decide_eq_true c7
    clear c7
    by_cases c8 : 0 ≤ x6_1
    ·rw [if_pos c8] at H
     have c8b0 : decide (0 ≤ x6_1) = true := decide_eq_true c8
     clear c8
     by_cases c9 : x5_1.length < 17592186044416
     ·rw [if_pos c9] at H
      have LMc9 := Aside0.mk c9
      clear c9
      obtain ⟨y593, hy593⟩ : ∃ y_ : List Int, y_ = (x5_1 ++ [(rd_T49 t585 x6_1).f0]) := ⟨_, rfl⟩
      replace H : (epactref25_days.l0 k1 y593 (wrap64 (x6_1 + 1)) t585 t588 t589) = some r := by first | (rw [hy593]; with_reducible exact H) | (have H2_ := (Option.bind_some _ _).symm.trans H; rw [hy593]; with_reducible exact H2_) | (have H2_ := (Option.bind_some _ _).symm.trans H; with_reducible exact H2_) | with_reducible exact H | (rw [hy593]; exact H) | exact H
      have Ny593 := Aside0.mk hy593
      clear hy593
      have H' := Aside0.mk H
      clear H
      have hcz10_0 := bc BK591 0
      have hcz10_1 := bc BK591 1
      have hcz10_2 := bc BK591 2
      have hfz10_0 := bf BK591 0
      have hfz10_1 := bf BK591 1
      have hfz10_2 := bf BK591 2
      have p592 : 0 ≤ (x6_1 : Int) := pa
      have q592 : x6_1 < (t585.length : Int) := pa
      obtain ⟨ad592, e592, hx592_0, hx592_1, hx592_2⟩ := at_T49 (Kd.R_reads' HO_592000.out).2.2 x6_1 p592 q592
      cases e592
      replace p592 := eq_true p592
      replace q592 := eq_true q592
      go_wp2_with (first | ((with_reducible refine gate_builtin (b := .append) (xs := #[.tmp 19, .tmp 26]) rfl ?_); at_builtin; refine Kd.R_append (Kd.int .i64) (w0 := w) w.heap.size rfl (.tmp 19) (.tmp 26) 67 3 (.int .i64 0) 8 rfl Try.underlying67 info3 rfl (by decide) (by omega) u5 x5_1 ((rd_T49 t585 x6_1).f0) [.int .i64 ((rd_T49 t585 x6_1).f0)] (fun _ => True) (fun _ => False) rfl rfl ?aP (fun _ hk => hk.elim) ?aF ?aO ?aB ?aS ?aL ?_; (case aP => exact rfl); (case aB => exact (by repeat (first | (with_reducible first | exact HB.out | apply below_alloc | apply pw_below_drewN | apply below_drew1 | refine below_set ?_ GE591.out) | exact HB.out))); (case aF => exact (fun _ _ => trivial)); (case aO => exact (by (with_reducible repeat (first | apply Kd.R_alloc | apply Kd.R_drewN | apply Kd.R_drew)); exact HO_5.out)); (case aS => exact (below_size (by repeat (first | (with_reducible first | exact HB.out | apply below_alloc | apply pw_below_drewN | apply below_drew1 | refine below_set ?_ GE591.out) | exact HB.out)))); (case aL => have := LMc9.out; omega); intro v594 w11 ho hb hg hat; rw [← Ny593.out] at ho; have n0_ := Aside0.mk (Kd.R_over' (by (with_reducible repeat (first | apply Kd.R_alloc | apply Kd.R_drewN | apply Kd.R_drew)); exact HO_592000.out) (Kd.R_typed (by (with_reducible repeat (first | apply Kd.R_alloc | apply Kd.R_drewN | apply Kd.R_drew)); exact HO_5.out)) (by decide) hg); have n1_ := Aside0.mk (blk_grown (g := gb591) (o := .cells #[.slice (some ad592) t585.length co5, .bool t588, .int .i64 t589] 44 (0, 0)) (ka BK591).out hg (Kd.R_ne HO_5.out BK591.out (by decide))); have n2_ := Aside0.mk (hb); have n3_ := Aside0.mk (ho); clear HO_592000; clear BK591; clear HB; clear HO_5; have HO_592000 := n0_; have BK591 := n1_; have HB := n2_; have HO595 := n3_; clear n0_ n1_ n2_ n3_; clear ho hb hg hat))
      go_roundg k1
      case measure => have := HK1.out; omega
      case rel => exact ⟨(y593), (wrap64 (x6_1 + 1)), pr, H', ⟨by have := HK1.out; omega⟩, ra HO595, ra HO_592000, ka BK591, ba HB⟩
     ·rw [if_neg c9] at H
      exact absurd H (by simp)
    ·rw [if_neg c8] at H
     exact absurd H (by simp)
   ·rw [if_neg c7] at H
    have c7b0 : decide (x6_1 < (t585.length : Int)) = false := decide_eq_false c7
    clear c7
    obtain rfl := Option.some.inj H
    have hcz12_0 := bc BK591 0
    have hcz12_1 := bc BK591 1
    have hcz12_2 := bc BK591 2
    have hfz12_0 := bf BK591 0
    have hfz12_1 := bf BK591 1
    have hfz12_2 := bf BK591 2
    go_wp2
    go_ret
    exact ⟨_, by first | rfl | (simp [errW_none, errW_some] <;> rfl) | (simp [*, errW_none, errW_some] <;> rfl), by (with_reducible repeat (first | apply Kd.R_alloc | apply Kd.R_drewN | apply Kd.R_drew)); exact HO_5.out, by repeat (first | (with_reducible first | exact HB.out | apply below_alloc | apply pw_below_drewN | apply below_drew1 | refine below_set ?_ GE591.out) | exact HB.out)⟩

/-! ### epactref25_place: function 34 -/
def epactref25_place.l0 : Nat → List (S53) → Int → List Int → Int → Option (Int)
 | 0, _, _, _, _ => none
 | k + 1, x0, x1, x5, x6 => if x6 < (x5.length : Int) then (if 0 ≤ x6 then ((epactref25_noon.f k x0 (rd x5 x6)).bind fun t600 => ((epactref22_Length.f k x0 (rd x5 x6)).bind fun bt602 => (if x1 ≥ t600 then (if (wrap64 (x1 - t600)) < bt602.1 then (some (rd x5 x6)) else (epactref25_place.l0 k x0 x1 x5 (wrap64 (x6 + 1)))) else (epactref25_place.l0 k x0 x1 x5 (wrap64 (x6 + 1)))))) else (none)) else (some (-1))
def epactref25_place.f (k : Nat) (l0 : List (S53)) (a1 : Int) : Option (Int) := (epactref25_days.f k l0).bind fun t596 => (epactref25_place.l0 k l0 a1 t596 0)
theorem epactref25_place.mono_l : ∀ k, (∀ y0 y1 y2 y3, LeO (epactref25_place.l0 k y0 y1 y2 y3) (epactref25_place.l0 (k + 1) y0 y1 y2 y3))
 | 0 => fun _ _ _ _ r h => by simp [epactref25_place.l0] at h
 | k + 1 => by
  have ih0 := epactref25_place.mono_l k
  ·intro y0 y1 y2 y3
   unfold epactref25_place.l0
   repeat' first
   | (with_reducible exact ih0 _ _ _ _)
   | (with_reducible exact epactref22_Length.mono _ _ _)
   | (with_reducible exact epactref25_days.mono _ _)
   | (with_reducible exact epactref25_noon.mono _ _ _)
   | (with_reducible exact LeO.refl _)
   | (with_reducible exact LeO.none _)
   | (with_reducible refine LeO.ite ?_ ?_)
   | (with_reducible refine LeO.bind ?_ (fun _ => ?_))
theorem epactref25_place.mono : ∀ a0 a1 k, LeO (epactref25_place.f k a0 a1) (epactref25_place.f (k + 1) a0 a1) := by
 intro a0 a1 k
 have ih0 := epactref25_place.mono_l k
 unfold epactref25_place.f
 repeat' first
   | (with_reducible exact ih0 _ _ _ _)
   | (with_reducible exact epactref22_Length.mono _ _ _)
   | (with_reducible exact epactref25_days.mono _ _)
   | (with_reducible exact epactref25_noon.mono _ _ _)
   | (with_reducible exact LeO.refl _)
   | (with_reducible exact LeO.none _)
   | (with_reducible refine LeO.ite ?_ ?_)
   | (with_reducible refine LeO.bind ?_ (fun _ => ?_))
set_option maxHeartbeats 8000000 in
set_option maxRecDepth 100000 in
theorem epactref25_place.calls (k : Nat) (A0 : Option Addr) (c0 : Nat) (l0 : List (S53)) (a1 : Int) (r : Int) (w : World) (hr0 : Kd.C k53 w A0 l0.length l0) (hc0 : l0.length ≤ c0) (h : epactref25_place.f k l0 a1 = some r) :
  Calls Try.prog 34 #[.slice A0 l0.length c0, .int .i64 a1] w fun e w' => e = .returned (.int .i64 r) ∧ Below w.heap.size w w' := by
 have HR0 := Aside0.mk hr0
 have HC0 := Aside0.mk hc0
 clear hr0 hc0
 have HB := Aside0.mk (Below.refl w.heap.size w)
 have H : ((epactref25_days.f k l0).bind fun t596 => (epactref25_place.l0 k l0 a1 t596 0)) = some r := h
 clear h
 obtain ⟨t596, A3, H⟩ := bnd H
 try dsimp only at H
 have H' := Aside0.mk H
 clear H
 go_enter Try.func34, Try.ntmps34
 go_wp2_with (first | (refine gL (some 11) Try.func48 #[.slice A0 l0.length c0] ?_; (with_reducible refine (epactref25_days.calls k _ _ l0 t596 _ ?side1 ?side2 A3.out).mono ?_); (case side1 => exact ca HR0); (case side2 => exact HC0.out); rintro e w4 ⟨v597, rfl, ho0, hb⟩; refine ⟨_, rfl, ?_⟩; have HO598 := lw ho0 HB; replace HB := bs HB hb; (try clear hb); (try clear ho0)))
 go_loopg [6] k (fun kq v6 w' => ∃ (x6_1 : Int), v6 = .int .i64 x6_1 ∧ Aside0 (epactref25_place.l0 kq l0 a1 t596 x6_1 = some r) ∧ Aside0 (kq ≤ k) ∧ Aside0 (Kd.R (Kd.int .i64) 3 w' w.heap.size (fun _ => True) v597 t596) ∧ Aside0 (Below w.heap.size w w'))
 case atStart => exact ⟨(0), pr, H', ⟨Nat.le_refl _⟩, ra HO598, ba HB⟩
 case round =>
  clear H'
  try clear p2
  try clear c3
  try clear c4
  obtain ⟨x6_1, rfl, HA, HK1, HO_5, HB⟩ := hrel
  cases gk with
  | zero => exact absurd HA.out (by simp [epactref25_place.l0])
  | succ k1 =>
   have H := HA.out
   clear HA
   simp only [epactref25_place.l0] at H
   by_cases c5 : x6_1 < (t596.length : Int)
   ·rw [if_pos c5] at H
    have c5b0 : decide (x6_1 < (t596.length : Int)) = true := decide_eq_true c5
    clear c5
    by_cases c6 : 0 ≤ x6_1
    ·rw [if_pos c6] at H
     have c6b0 : decide (0 ≤ x6_1) = true := decide_eq_true c6
     clear c6
     obtain ⟨t600, A7, H⟩ := bnd H
     try dsimp only at H
     obtain ⟨⟨t602, t603⟩, A8, H⟩ := bnd H
     try dsimp only at H
     by_cases c9 : a1 ≥ t600
     ·rw [if_pos c9] at H
      have c9b0 : decide (t600 ≤ a1) = true := decide_eq_true c9
      clear c9
      by_cases c10 : (wrap64 (a1 - t600)) < t602
      ·rw [if_pos c10] at H
       have c10b0 : decide ((wrap64 (a1 - t600)) < t602) = true := decide_eq_true c10
       clear c10
       obtain rfl := Option.some.inj H
       obtain ⟨Ao11, co11, eo11⟩ := Kd.R_slice HO_5.out
       subst eo11
       have p599 : 0 ≤ (x6_1 : Int) := pa
       have q599 : x6_1 < (t596.length : Int) := pa
       obtain ⟨ad599, e599, hx599_0⟩ := Kd.at_int (Kd.R_reads' HO_5.out).2.2 x6_1 p599 q599
       cases e599
       replace p599 := eq_true p599
       replace q599 := eq_true q599
       go_wp2_with (first | (refine gM (some 23) Try.func36 #[.slice A0 l0.length c0, .int .i64 (rd t596 x6_1)] (epactref25_noon.calls k1 _ _ l0 (rd t596 x6_1) t600 _ ?side1 ?side2 A7.out) ?_; (case side1 => exact cb HR0 HB); (case side2 => exact HC0.out); intro w12 hb; replace HO_5 := rb HO_5 hb; replace HB := bs HB hb; (try clear hb); have p601 : 0 ≤ (x6_1 : Int) := pa; have q601 : x6_1 < (t596.length : Int) := pa; obtain ⟨ad601, e601, hx601_0⟩ := Kd.at_int (Kd.R_reads' HO_5.out).2.2 x6_1 p601 q601; obtain rfl : ad599 = ad601 := (by injection e601); replace p601 := eq_true p601; replace q601 := eq_true q601) | (refine gM (some 30) Try.func35 #[.slice A0 l0.length c0, .int .i64 (rd t596 x6_1)] (epactref22_Length.calls k1 _ _ l0 (rd t596 x6_1) t602 t603 _ ?side1 ?side2 A8.out) ?_; (case side1 => exact cb HR0 HB); (case side2 => exact HC0.out); intro w13 hb; replace HO_5 := rb HO_5 hb; replace HB := bs HB hb; (try clear hb); have p604 : 0 ≤ (x6_1 : Int) := pa; have q604 : x6_1 < (t596.length : Int) := pa; obtain ⟨ad604, e604, hx604_0⟩ := Kd.at_int (Kd.R_reads' HO_5.out).2.2 x6_1 p604 q604; obtain rfl : ad599 = ad604 := (by injection e604); replace p604 := eq_true p604; replace q604 := eq_true q604))
       go_ret
       exact fi HB
      ·rw [if_neg c10] at H
       have c10b0 : decide ((wrap64 (a1 - t600)) < t602) = false := decide_eq_false c10
       clear c10
       have H' := Aside0.mk H
       clear H
       obtain ⟨Ao14, co14, eo14⟩ := Kd.R_slice HO_5.out
       subst eo14
       have p599 : 0 ≤ (x6_1 : Int) := pa
       have q599 : x6_1 < (t596.length : Int) := pa
       obtain ⟨ad599, e599, hx599_0⟩ := Kd.at_int (Kd.R_reads' HO_5.out).2.2 x6_1 p599 q599
       cases e599
       replace p599 := eq_true p599
       replace q599 := eq_true q599
       go_wp2_with (first | (refine gM (some 23) Try.func36 #[.slice A0 l0.length c0, .int .i64 (rd t596 x6_1)] (epactref25_noon.calls k1 _ _ l0 (rd t596 x6_1) t600 _ ?side1 ?side2 A7.out) ?_; (case side1 => exact cb HR0 HB); (case side2 => exact HC0.out); intro w15 hb; replace HO_5 := rb HO_5 hb; replace HB := bs HB hb; (try clear hb); have p601 : 0 ≤ (x6_1 : Int) := pa; have q601 : x6_1 < (t596.length : Int) := pa; obtain ⟨ad601, e601, hx601_0⟩ := Kd.at_int (Kd.R_reads' HO_5.out).2.2 x6_1 p601 q601; obtain rfl : ad599 = ad601 := (by injection e601); replace p601 := eq_true p601; replace q601 := eq_true q601) | (refine gM (some 30) Try.func35 #[.slice A0 l0.length c0, .int .i64 (rd t596 x6_1)] (epactref22_Length.calls k1 _ _ l0 (rd t596 x6_1) t602 t603 _ ?side1 ?side2 A8.out) ?_; (case side1 => exact cb HR0 HB); (case side2 => exact HC0.out); intro w16 hb; replace HO_5 := rb HO_5 hb; replace HB := bs HB hb; (try clear hb)))
       go_roundg k1
       case measure => have := HK1.out; omega
       case rel => exact ⟨(wrap64 (x6_1 + 1)), pr, H', ⟨by have := HK1.out; omega⟩, ra HO_5, ba HB⟩
     ·rw [if_neg c9] at H
      have c9b0 : decide (t600 ≤ a1) = false := decide_eq_false c9
      clear c9
      have H' := Aside0.mk H
      clear H
      obtain ⟨Ao17, co17, eo17⟩ := Kd.R_slice HO_5.out
      subst eo17
      have p599 : 0 ≤ (x6_1 : Int) := pa
      have q599 : x6_1 < (t596.length : Int) := pa
      obtain ⟨ad599, e599, hx599_0⟩ := Kd.at_int (Kd.R_reads' HO_5.out).2.2 x6_1 p599 q599
      cases e599
      replace p599 := eq_true p599
      replace q599 := eq_true q599
      go_wp2_with (first | (refine gM (some 23) Try.func36 #[.slice A0 l0.length c0, .int .i64 (rd t596 x6_1)] (epactref25_noon.calls k1 _ _ l0 (rd t596 x6_1) t600 _ ?side1 ?side2 A7.out) ?_; (case side1 => exact cb HR0 HB); (case side2 => exact HC0.out); intro w18 hb; replace HO_5 := rb HO_5 hb; replace HB := bs HB hb; (try clear hb); have p601 : 0 ≤ (x6_1 : Int) := pa; have q601 : x6_1 < (t596.length : Int) := pa; obtain ⟨ad601, e601, hx601_0⟩ := Kd.at_int (Kd.R_reads' HO_5.out).2.2 x6_1 p601 q601; obtain rfl : ad599 = ad601 := (by injection e601); replace p601 := eq_true p601; replace q601 := eq_true q601) | (refine gM (some 30) Try.func35 #[.slice A0 l0.length c0, .int .i64 (rd t596 x6_1)] (epactref22_Length.calls k1 _ _ l0 (rd t596 x6_1) t602 t603 _ ?side1 ?side2 A8.out) ?_; (case side1 => exact cb HR0 HB); (case side2 => exact HC0.out); intro w19 hb; replace HO_5 := rb HO_5 hb; replace HB := bs HB hb; (try clear hb)))
      go_roundg k1
      case measure => have := HK1.out; omega
      case rel => exact ⟨(wrap64 (x6_1 + 1)), pr, H', ⟨by have := HK1.out; omega⟩, ra HO_5, ba HB⟩
    ·rw [if_neg c6] at H
     exact absurd H (by simp)
   ·rw [if_neg c5] at H
    have c5b0 : decide (x6_1 < (t596.length : Int)) = false := decide_eq_false c5
    clear c5
    obtain rfl := Option.some.inj H
    obtain ⟨Ao20, co20, eo20⟩ := Kd.R_slice HO_5.out
    subst eo20
    go_wp2
    go_ret
    exact fi HB

/-! ### epactref25_Window: function 12 -/
def epactref25_Window.f (k : Nat) (l0 : List (S53)) (a1 : Int) : Option (Int × Int × Bool) := (epactref22_Known.f k l0).bind fun t605 => (if t605 = true then ((epactref25_place.f k l0 a1).bind fun t606 => (if t606 < 0 then (some (0, 0, false)) else ((epactref22_Length.f k l0 t606).bind fun bt607 => ((epactref25_noon.f k l0 t606).bind fun t609 => (some (t609, bt607.1, true)))))) else (some (0, 0, false)))
theorem epactref25_Window.mono : ∀ a0 a1 k, LeO (epactref25_Window.f k a0 a1) (epactref25_Window.f (k + 1) a0 a1) := by
 intro a0 a1 k
 unfold epactref25_Window.f
 repeat' first
   | (with_reducible exact epactref22_Known.mono _ _)
   | (with_reducible exact epactref22_Length.mono _ _ _)
   | (with_reducible exact epactref25_noon.mono _ _ _)
   | (with_reducible exact epactref25_place.mono _ _ _)
   | (with_reducible exact LeO.refl _)
   | (with_reducible exact LeO.none _)
   | (with_reducible refine LeO.ite ?_ ?_)
   | (with_reducible refine LeO.bind ?_ (fun _ => ?_))
set_option maxHeartbeats 8000000 in
set_option maxRecDepth 100000 in
theorem epactref25_Window.calls (k : Nat) (A0 : Option Addr) (c0 : Nat) (l0 : List (S53)) (a1 : Int) (r1 : Int) (r2 : Int) (r3 : Bool) (w : World) (hr0 : Kd.C k53 w A0 l0.length l0) (hc0 : l0.length ≤ c0) (h : epactref25_Window.f k l0 a1 = some (r1, r2, r3)) :
  Calls Try.prog 12 #[.slice A0 l0.length c0, .int .i64 a1] w fun e w' => e = .returned (.tuple #[.int .i64 r1, .int .i64 r2, .bool r3]) ∧ Below w.heap.size w w' := by
 have HR0 := Aside0.mk hr0
 have HC0 := Aside0.mk hc0
 clear hr0 hc0
 have HB := Aside0.mk (Below.refl w.heap.size w)
 have H : ((epactref22_Known.f k l0).bind fun t605 => (if t605 = true then ((epactref25_place.f k l0 a1).bind fun t606 => (if t606 < 0 then (some (0, 0, false)) else ((epactref22_Length.f k l0 t606).bind fun bt607 => ((epactref25_noon.f k l0 t606).bind fun t609 => (some (t609, bt607.1, true)))))) else (some (0, 0, false)))) = some (r1, r2, r3) := h
 clear h
 obtain ⟨t605, A3, H⟩ := bnd H
 try dsimp only at H
 by_cases c4 : t605 = true
 ·subst c4
  rw [if_pos rfl] at H
  obtain ⟨t606, A5, H⟩ := bnd H
  try dsimp only at H
  by_cases c6 : t606 < 0
  ·rw [if_pos c6] at H
   have c6b0 : decide (t606 < 0) = true := decide_eq_true c6
   clear c6
   simp only [Option.some.injEq, Prod.mk.injEq] at H
   obtain ⟨rfl, rfl, rfl⟩ := H
   go_enter Try.func12, Try.ntmps12
   go_wp2_with (first | (refine gM (some 11) Try.func33 #[.slice A0 l0.length c0] (epactref22_Known.calls k _ _ l0 true _ ?side1 ?side2 A3.out) ?_; (case side1 => exact ca HR0); (case side2 => exact HC0.out); intro w7 hb; replace HB := bs HB hb; (try clear hb)) | (refine gM (some 15) Try.func34 #[.slice A0 l0.length c0, .int .i64 a1] (epactref25_place.calls k _ _ l0 a1 t606 _ ?side1 ?side2 A5.out) ?_; (case side1 => exact cb HR0 HB); (case side2 => exact HC0.out); intro w8 hb; replace HB := bs HB hb; (try clear hb)))
   go_ret3
   exact fi HB
  ·rw [if_neg c6] at H
   have c6b0 : decide (t606 < 0) = false := decide_eq_false c6
   clear c6
   obtain ⟨⟨t607, t608⟩, A9, H⟩ := bnd H
   try dsimp only at H
   obtain ⟨t609, A10, H⟩ := bnd H
   try dsimp only at H
   simp only [Option.some.injEq, Prod.mk.injEq] at H
   obtain ⟨rfl, rfl, rfl⟩ := H
   go_enter Try.func12, Try.ntmps12
   go_wp2_with (first | (refine gM (some 11) Try.func33 #[.slice A0 l0.length c0] (epactref22_Known.calls k _ _ l0 true _ ?side1 ?side2 A3.out) ?_; (case side1 => exact ca HR0); (case side2 => exact HC0.out); intro w11 hb; replace HB := bs HB hb; (try clear hb)) | (refine gM (some 15) Try.func34 #[.slice A0 l0.length c0, .int .i64 a1] (epactref25_place.calls k _ _ l0 a1 t606 _ ?side1 ?side2 A5.out) ?_; (case side1 => exact cb HR0 HB); (case side2 => exact HC0.out); intro w12 hb; replace HB := bs HB hb; (try clear hb)) | (refine gM (some 21) Try.func35 #[.slice A0 l0.length c0, .int .i64 t606] (epactref22_Length.calls k _ _ l0 t606 t607 t608 _ ?side1 ?side2 A9.out) ?_; (case side1 => exact cb HR0 HB); (case side2 => exact HC0.out); intro w13 hb; replace HB := bs HB hb; (try clear hb)) | (refine gM (some 26) Try.func36 #[.slice A0 l0.length c0, .int .i64 t606] (epactref25_noon.calls k _ _ l0 t606 t609 _ ?side1 ?side2 A10.out) ?_; (case side1 => exact cb HR0 HB); (case side2 => exact HC0.out); intro w14 hb; replace HB := bs HB hb; (try clear hb)))
   go_ret3
   exact fi HB
 ·replace c4 := Bool.eq_false_iff.mpr c4
  subst c4
  rw [if_neg (show ¬ (false = true) by decide)] at H
  simp only [Option.some.injEq, Prod.mk.injEq] at H
  obtain ⟨rfl, rfl, rfl⟩ := H
  go_enter Try.func12, Try.ntmps12
  go_wp2_with (first | (refine gM (some 11) Try.func33 #[.slice A0 l0.length c0] (epactref22_Known.calls k _ _ l0 false _ ?side1 ?side2 A3.out) ?_; (case side1 => exact ca HR0); (case side2 => exact HC0.out); intro w15 hb; replace HB := bs HB hb; (try clear hb)))
  go_ret3
  exact fi HB

/-! ### epactref25_tick: function 47 -/
def epactref25_tick.f (a0_0 : Int) (a0_1 : Int) : Option (Bool) := if a0_1 ≥ 0 then (some (decide (a0_1 < 1000000000))) else (some false)
set_option maxHeartbeats 8000000 in
set_option maxRecDepth 100000 in
theorem epactref25_tick.calls (a0_0 : Int) (a0_1 : Int) (r : Bool) (w : World) (h : epactref25_tick.f a0_0 a0_1 = some r) :
  Calls Try.prog 47 #[.agg #[.int .i64 a0_0, .int .i64 a0_1]] w fun e w' => e = .returned (.bool r) ∧ Below w.heap.size w w' := by
 have hu24 := Try.underlying24
 have HB := Aside0.mk (Below.refl w.heap.size w)
 have H : (if a0_1 ≥ 0 then (some (decide (a0_1 < 1000000000))) else (some false)) = some r := h
 clear h
 by_cases c2 : a0_1 ≥ 0
 ·rw [if_pos c2] at H
  have c2b0 : decide (0 ≤ a0_1) = true := decide_eq_true c2
  clear c2
  obtain rfl := Option.some.inj H
  go_enter Try.func47, Try.ntmps47
  go_wp2_with (first | (refine bx 1 #[.int .i64 a0_0, .int .i64 a0_1] 24 ?_; intro gb610 hg w3 hbox hb; have n1_ := Aside0.mk (hbox); have GW610 := gw HB hg; have GE610 := gw HB hg; replace HB := bs HB hb; have BK610 := n1_; clear n1_; clear hb hbox hg; have hcz4_0 := bc BK610 0; have hcz4_1 := bc BK610 1; have hfz4_0 := bf BK610 0; have hfz4_1 := bf BK610 1))
  go_ret
  exact fi HB
 ·rw [if_neg c2] at H
  have c2b0 : decide (0 ≤ a0_1) = false := decide_eq_false c2
  clear c2
  obtain rfl := Option.some.inj H
  go_enter Try.func47, Try.ntmps47
  go_wp2_with (first | (refine bx 1 #[.int .i64 a0_0, .int .i64 a0_1] 24 ?_; intro gb610 hg w5 hbox hb; have n1_ := Aside0.mk (hbox); have GW610 := gw HB hg; have GE610 := gw HB hg; replace HB := bs HB hb; have BK610 := n1_; clear n1_; clear hb hbox hg; have hcz6_0 := bc BK610 0; have hcz6_1 := bc BK610 1; have hfz6_0 := bf BK610 0; have hfz6_1 := bf BK610 1))
  go_ret
  exact fi HB

/-! ### epactref22_Utc: function 50 -/
mutual
def epactref22_Utc.j0 : Nat → Int → Bool → List (S49) → Bool → Int → Option (Int × Int × Int)
 | 0, _, _, _, _, _ => none
 | k + 1, x1, x34, x618000, x618001, x618002 => if x34 = true then (some (0, 0, 10)) else (epactref22_Utc.l0 k x1 730 0 x618000 x618001 x618002)
def epactref22_Utc.l0 : Nat → Int → Int → Int → List (S49) → Bool → Int → Option (Int × Int × Int)
 | 0, _, _, _, _, _, _ => none
 | k + 1, x11, x12, x13, x618000, x618001, x618002 => if x13 < (x618000.length : Int) then (if 0 ≤ x13 then (if x11 < (wrap64 (86400 * (wrap64 (((rd_T49 x618000 x13).f0) - x12)))) then (if (wrap64 (x12 + (wrap64 (Int.tdiv x11 86400)))) > 2932896 then (some (0, 0, 9)) else (some (wrap64 (x12 + (wrap64 (Int.tdiv x11 86400))), Int.tmod x11 86400, 0))) else (if (wrap64 (x11 - (wrap64 (86400 * (wrap64 (((rd_T49 x618000 x13).f0) - x12)))))) < (wrap64 (86400 + ((rd_T49 x618000 x13).f1))) then (some ((rd_T49 x618000 x13).f0, wrap64 (x11 - (wrap64 (86400 * (wrap64 (((rd_T49 x618000 x13).f0) - x12))))), 0)) else (epactref22_Utc.l0 k (wrap64 ((wrap64 ((wrap64 (x11 - (wrap64 (86400 * (wrap64 (((rd_T49 x618000 x13).f0) - x12)))))) - 86400)) - ((rd_T49 x618000 x13).f1))) (wrap64 (((rd_T49 x618000 x13).f0) + 1)) (wrap64 (x13 + 1)) x618000 x618001 x618002))) else (none)) else (if (wrap64 (x12 + (wrap64 (Int.tdiv x11 86400)))) > 2932896 then (some (0, 0, 9)) else (some (wrap64 (x12 + (wrap64 (Int.tdiv x11 86400))), Int.tmod x11 86400, 0)))
end
def epactref22_Utc.f (k : Nat) (l0 : List (S53)) (a1 : Int) : Option (Int × Int × Int) := (epactref22_table.f k l0).bind fun bt611 => (if bt611.2.2.2 = true then (if a1 < 0 then (some (0, 0, 9)) else ((epactref22_End.f k l0).bind fun bt618 => (if bt618.2 = true then (epactref22_Utc.j0 k a1 (decide (a1 ≥ bt618.1)) bt611.1 bt611.2.1 bt611.2.2.1) else (epactref22_Utc.j0 k a1 false bt611.1 bt611.2.1 bt611.2.2.1)))) else (some (0, 0, 1)))
theorem epactref22_Utc.mono_l : ∀ k, (∀ y0 y1 y2 y3 y4, LeO (epactref22_Utc.j0 k y0 y1 y2 y3 y4) (epactref22_Utc.j0 (k + 1) y0 y1 y2 y3 y4)) ∧ (∀ y0 y1 y2 y3 y4 y5, LeO (epactref22_Utc.l0 k y0 y1 y2 y3 y4 y5) (epactref22_Utc.l0 (k + 1) y0 y1 y2 y3 y4 y5))
 | 0 => ⟨fun _ _ _ _ _ r h => by simp [epactref22_Utc.j0] at h, fun _ _ _ _ _ _ r h => by simp [epactref22_Utc.l0] at h⟩
 | k + 1 => by
  obtain ⟨ih0, ih1⟩ := epactref22_Utc.mono_l k
  refine ⟨?_, ?_⟩
  ·intro y0 y1 y2 y3 y4
   unfold epactref22_Utc.j0
   repeat' first
   | (with_reducible exact ih0 _ _ _ _ _)
   | (with_reducible exact ih1 _ _ _ _ _ _)
   | (with_reducible exact epactref22_End.mono _ _)
   | (with_reducible exact epactref22_table.mono _ _)
   | (with_reducible exact LeO.refl _)
   | (with_reducible exact LeO.none _)
   | (with_reducible refine LeO.ite ?_ ?_)
   | (with_reducible refine LeO.bind ?_ (fun _ => ?_))
  ·intro y0 y1 y2 y3 y4 y5
   unfold epactref22_Utc.l0
   repeat' first
   | (with_reducible exact ih0 _ _ _ _ _)
   | (with_reducible exact ih1 _ _ _ _ _ _)
   | (with_reducible exact epactref22_End.mono _ _)
   | (with_reducible exact epactref22_table.mono _ _)
   | (with_reducible exact LeO.refl _)
   | (with_reducible exact LeO.none _)
   | (with_reducible refine LeO.ite ?_ ?_)
   | (with_reducible refine LeO.bind ?_ (fun _ => ?_))
theorem epactref22_Utc.mono : ∀ a0 a1 k, LeO (epactref22_Utc.f k a0 a1) (epactref22_Utc.f (k + 1) a0 a1) := by
 intro a0 a1 k
 obtain ⟨ih0, ih1⟩ := epactref22_Utc.mono_l k
 unfold epactref22_Utc.f
 repeat' first
   | (with_reducible exact ih0 _ _ _ _ _)
   | (with_reducible exact ih1 _ _ _ _ _ _)
   | (with_reducible exact epactref22_End.mono _ _)
   | (with_reducible exact epactref22_table.mono _ _)
   | (with_reducible exact LeO.refl _)
   | (with_reducible exact LeO.none _)
   | (with_reducible refine LeO.ite ?_ ?_)
   | (with_reducible refine LeO.bind ?_ (fun _ => ?_))
set_option maxHeartbeats 8000000 in
set_option maxRecDepth 100000 in
theorem epactref22_Utc.calls (k : Nat) (A0 : Option Addr) (c0 : Nat) (l0 : List (S53)) (a1 : Int) (r1 : Int) (r2 : Int) (r3 : Int) (w : World) (hr0 : Kd.C k53 w A0 l0.length l0) (hc0 : l0.length ≤ c0) (h : epactref22_Utc.f k l0 a1 = some (r1, r2, r3)) :
  Calls Try.prog 50 #[.slice A0 l0.length c0, .int .i64 a1] w fun e w' => e = .returned (.tuple #[.int .i64 r1, .int .i64 r2, .int .i64 r3]) ∧ Below w.heap.size w w' := by
 have hu44 := Try.underlying44
 have HR0 := Aside0.mk hr0
 have HC0 := Aside0.mk hc0
 clear hr0 hc0
 have HB := Aside0.mk (Below.refl w.heap.size w)
 have H : ((epactref22_table.f k l0).bind fun bt611 => (if bt611.2.2.2 = true then (if a1 < 0 then (some (0, 0, 9)) else ((epactref22_End.f k l0).bind fun bt618 => (if bt618.2 = true then (epactref22_Utc.j0 k a1 (decide (a1 ≥ bt618.1)) bt611.1 bt611.2.1 bt611.2.2.1) else (epactref22_Utc.j0 k a1 false bt611.1 bt611.2.1 bt611.2.2.1)))) else (some (0, 0, 1)))) = some (r1, r2, r3) := h
 clear h
 obtain ⟨⟨t611, t614, t615, t616⟩, A3, H⟩ := bnd H
 try dsimp only at H
 by_cases c4 : t616 = true
 ·subst c4
  rw [if_pos rfl] at H
  by_cases c5 : a1 < 0
  ·rw [if_pos c5] at H
   have c5b0 : decide (a1 < 0) = true := decide_eq_true c5
   clear c5
   simp only [Option.some.injEq, Prod.mk.injEq] at H
   obtain ⟨rfl, rfl, rfl⟩ := H
   go_enter Try.func50, Try.ntmps50
   go_wp2_with (first | (refine gL (some 17) Try.func70 #[.slice A0 l0.length c0] ?_; (with_reducible refine (epactref22_table.calls k _ _ l0 t611 t614 t615 true _ ?side1 ?side2 A3.out).mono ?_); (case side1 => exact ca HR0); (case side2 => exact HC0.out); rintro e w6 ⟨v612, rfl, ho0, hb⟩; refine ⟨_, rfl, ?_⟩; have HO613 := lw ho0 HB; replace HB := bs HB hb; (try clear hb); (try clear ho0)) | (refine bx 7 #[.slice none 0 0, .bool false, .int .i64 0] 44 ?_; intro gb617 hg w7 hbox hb; have n2_ := Aside0.mk (hbox); have GW617 := gw HB hg; have GE617 := gw HB hg; replace HO613 := rb HO613 hb; replace HB := bs HB hb; have BK617 := n2_; clear n2_; clear hb hbox hg; obtain ⟨Ao8, co8, eo8⟩ := Kd.R_slice HO613.out; subst eo8; have hcz9_0 := bc BK617 0; have hcz9_1 := bc BK617 1; have hcz9_2 := bc BK617 2; have hfz9_0 := bf BK617 0; have hfz9_1 := bf BK617 1; have hfz9_2 := bf BK617 2))
   go_ret3
   exact fi HB
  ·rw [if_neg c5] at H
   have c5b0 : decide (a1 < 0) = false := decide_eq_false c5
   clear c5
   obtain ⟨⟨t618, t619⟩, A10, H⟩ := bnd H
   try dsimp only at H
   have HC11 := Aside0.mk H
   clear H
   go_enter Try.func50, Try.ntmps50
   go_upto_region 7 with (first | (refine gL (some 17) Try.func70 #[.slice A0 l0.length c0] ?_; (with_reducible refine (epactref22_table.calls k _ _ l0 t611 t614 t615 true _ ?side1 ?side2 A3.out).mono ?_); (case side1 => exact ca HR0); (case side2 => exact HC0.out); rintro e w12 ⟨v612, rfl, ho0, hb⟩; refine ⟨_, rfl, ?_⟩; have HO613 := lw ho0 HB; replace HB := bs HB hb; (try clear hb); (try clear hb2); (try clear hk); (try clear hi); (try clear ho0)) | (refine bx 7 #[.slice none 0 0, .bool false, .int .i64 0] 44 ?_; intro gb617 hg w13 hbox hb; have n2_ := Aside0.mk (hbox); have GW617 := gw HB hg; have GE617 := gw HB hg; replace HO613 := rb HO613 hb; replace HB := bs HB hb; have BK617 := n2_; clear n2_; clear hb hbox hg; obtain ⟨Ao14, co14, eo14⟩ := Kd.R_slice HO613.out; subst eo14; have hcz15_0 := bc BK617 0; have hcz15_1 := bc BK617 1; have hcz15_2 := bc BK617 2; have hfz15_0 := bf BK617 0; have hfz15_1 := bf BK617 1; have hfz15_2 := bf BK617 2) | (refine gM (some 26) Try.func80 #[.slice A0 l0.length c0] (epactref22_End.calls k _ _ l0 t618 t619 _ ?side1 ?side2 A10.out) ?_; (case side1 => exact cb HR0 HB); (case side2 => exact HC0.out); intro w16 hb; have n0_ := Aside0.mk (Kd.R_below (by (with_reducible repeat (first | apply Kd.R_alloc | apply Kd.R_drewN | apply Kd.R_drew)); exact (Kd.R_mono (Kd.R_far (p := ⟨gb617, 2, none⟩) (Kd.R_far (p := ⟨gb617, 1, none⟩) (Kd.R_far (p := ⟨gb617, 0, none⟩) (Kd.R_types HO613.out BK617.out (by decide)) (fun _ hk => hk.2) (.slice Ao14 t611.length co14)) (fun _ hk => hk.2) (.bool t614)) (fun _ hk => hk.2) (.int .i64 t615)) (fun _ h_ => h_.1))) hb); have n1_ := Aside0.mk (blk_below (g := gb617) (o := .cells #[.slice Ao14 t611.length co14, .bool t614, .int .i64 t615] 44 (0, 0)) (by (with_reducible repeat (first | refine blk_drewN ?_ _ | refine blk_drew ?_ | refine blk_alloc ?_ _)); refine blk_put (cs := #[.slice Ao14 t611.length co14, .bool t614, .int .i64 0]) ?_ 2 _ rfl; (with_reducible repeat (first | refine blk_drewN ?_ _ | refine blk_drew ?_ | refine blk_alloc ?_ _)); refine blk_put (cs := #[.slice Ao14 t611.length co14, .bool false, .int .i64 0]) ?_ 1 _ rfl; (with_reducible repeat (first | refine blk_drewN ?_ _ | refine blk_drew ?_ | refine blk_alloc ?_ _)); refine blk_put (cs := #[.slice none 0 0, .bool false, .int .i64 0]) ?_ 0 _ rfl; (with_reducible repeat (first | refine blk_drewN ?_ _ | refine blk_drew ?_ | refine blk_alloc ?_ _)); exact BK617.out) hb); replace HB := bs HB hb; clear HO613; clear BK617; have HO613 := n0_; have BK617 := n1_; clear n0_ n1_; (try clear hb); (try clear hb2); (try clear hk); (try clear hi)))
   (try simp only [Act.put, List.setIfInBounds_toArray, List.set_cons_zero, List.set_cons_succ])
   go_cut [34] (fun v34 wc => ∃ (kq : Nat) (x34_10 : Bool), v34 = .bool x34_10 ∧ Aside0 (epactref22_Utc.j0 kq a1 x34_10 t611 t614 t615 = some (r1, r2, r3)) ∧ Aside0 (kq ≤ k) ∧ Aside0 (Kd.R k49 49 wc w.heap.size (fun _ => True) (.slice Ao14 t611.length co14) t611) ∧ Aside0 (wc.heap[gb617]? = some (.cells #[(.slice Ao14 t611.length co14), .bool t614, .int .i64 t615] 44 (0, 0))) ∧ Aside0 (Below w.heap.size w wc))
   case first =>
    have H := HC11.out
    clear HC11
    by_cases c17 : t619 = true
    ·subst c17
     rw [if_pos rfl] at H
     have H' := Aside0.mk H
     clear H
     go_wp2
     go_meet
     case rel => exact ⟨_, (decide (a1 ≥ t618)), pr, H', om, ra HO613, ka BK617, ba HB⟩
    ·replace c17 := Bool.eq_false_iff.mpr c17
     subst c17
     rw [if_neg (show ¬ (false = true) by decide)] at H
     have H' := Aside0.mk H
     clear H
     go_wp2
     go_meet
     case rel => exact ⟨_, (false), pr, H', om, ra HO613, ka BK617, ba HB⟩
   case rest =>
    clear HC11
    try clear c1
    try clear p2
    try clear c4
    try clear c5
    try clear c5b0
    try clear c7
    try clear c8
    try clear c17
    try clear hcz15_0
    try clear hcz15_1
    try clear hcz15_2
    try clear hcz9_0
    try clear hcz9_1
    try clear hcz9_2
    try clear hfz15_0
    try clear hfz15_1
    try clear hfz15_2
    try clear hfz9_0
    try clear hfz9_1
    try clear hfz9_2
    obtain ⟨kq, x34_10, rfl, HA, HJ10, HO_618000, BK617, HB⟩ := hcut
    cases kq with
    | zero => exact absurd HA.out (by simp [epactref22_Utc.j0])
    | succ kj10 =>
     have H := HA.out
     clear HA
     simp only [epactref22_Utc.j0] at H
     by_cases c18 : x34_10 = true
     ·subst c18
      rw [if_pos rfl] at H
      simp only [Option.some.injEq, Prod.mk.injEq] at H
      obtain ⟨rfl, rfl, rfl⟩ := H
      go_wp2
      go_ret3
      exact fi HB
     ·replace c18 := Bool.eq_false_iff.mpr c18
      subst c18
      rw [if_neg (show ¬ (false = true) by decide)] at H
      have H' := Aside0.mk H
      clear H
      go_wp2
      go_loopg [11, 12, 13] kj10 (fun kq v11 v12 v13 w' => ∃ (x11_2 : Int) (x12_2 : Int) (x13_2 : Int), v11 = .int .i64 x11_2 ∧ v12 = .int .i64 x12_2 ∧ v13 = .int .i64 x13_2 ∧ Aside0 (epactref22_Utc.l0 kq x11_2 x12_2 x13_2 t611 t614 t615 = some (r1, r2, r3)) ∧ Aside0 (kq ≤ kj10) ∧ Aside0 (Kd.R k49 49 w' w.heap.size (fun _ => True) (.slice Ao14 t611.length co14) t611) ∧ Aside0 (w'.heap[gb617]? = some (.cells #[(.slice Ao14 t611.length co14), .bool t614, .int .i64 t615] 44 (0, 0))) ∧ Aside0 (Below w.heap.size w w'))
      case atStart => exact ⟨(a1), (730), (0), pr, pr, pr, H', ⟨Nat.le_refl _⟩, ra HO_618000, ka BK617, ba HB⟩
      case round =>
       clear H'
       try clear c1
       try clear p2
       try clear c4
       try clear c5
       try clear c5b0
       try clear c7
       try clear c8
       try clear c17
       try clear c18
       try clear hcz15_0
       try clear hcz15_1
       try clear hcz15_2
       try clear hcz9_0
       try clear hcz9_1
       try clear hcz9_2
       try clear hfz15_0
       try clear hfz15_1
       try clear hfz15_2
       try clear hfz9_0
       try clear hfz9_1
       try clear hfz9_2
       try clear p2
       obtain ⟨x11_2, x12_2, x13_2, rfl, rfl, rfl, HA, HK2, HO_618000, BK617, HB⟩ := hrel
       cases gk with
       | zero => exact absurd HA.out (by simp [epactref22_Utc.l0])
       | succ k2 =>
        have H := HA.out
        clear HA
        simp only [epactref22_Utc.l0] at H
        by_cases c19 : x13_2 < (t611.length : Int)
        ·rw [if_pos c19] at H
         have c19b0 : decide (x13_2 < (t611.length : Int)) = true := decide_eq_true c19
         clear c19
         by_cases c20 : 0 ≤ x13_2
         ·rw [if_pos c20] at H
          have c20b0 : decide (0 ≤ x13_2) = true := decide_eq_true c20
          clear c20
          by_cases c21 : x11_2 < (wrap64 (86400 * (wrap64 (((rd_T49 t611 x13_2).f0) - x12_2))))
          ·rw [if_pos c21] at H
           have c21b0 : decide (x11_2 < (wrap64 (86400 * (wrap64 (((rd_T49 t611 x13_2).f0) - x12_2))))) = true := decide_eq_true c21
           clear c21
           by_cases c22 : (wrap64 (x12_2 + (wrap64 (Int.tdiv x11_2 86400)))) > 2932896
           ·rw [if_pos c22] at H
            have c22b0 : decide (2932896 < (wrap64 (x12_2 + (wrap64 (Int.tdiv x11_2 86400))))) = true := decide_eq_true c22
            clear c22
            simp only [Option.some.injEq, Prod.mk.injEq] at H
            obtain ⟨rfl, rfl, rfl⟩ := H
            have hcz23_0 := bc BK617 0
            have hcz23_1 := bc BK617 1
            have hcz23_2 := bc BK617 2
            have hfz23_0 := bf BK617 0
            have hfz23_1 := bf BK617 1
            have hfz23_2 := bf BK617 2
            have p620 : 0 ≤ (x13_2 : Int) := pa
            have q620 : x13_2 < (t611.length : Int) := pa
            obtain ⟨ad620, e620, hx620_0, hx620_1, hx620_2⟩ := at_T49 (Kd.R_reads' HO_618000.out).2.2 x13_2 p620 q620
            cases e620
            replace p620 := eq_true p620
            replace q620 := eq_true q620
            go_wp2
            go_ret3
            exact fi HB
           ·rw [if_neg c22] at H
            have c22b0 : decide (2932896 < (wrap64 (x12_2 + (wrap64 (Int.tdiv x11_2 86400))))) = false := decide_eq_false c22
            clear c22
            simp only [Option.some.injEq, Prod.mk.injEq] at H
            obtain ⟨rfl, rfl, rfl⟩ := H
            have hcz24_0 := bc BK617 0
            have hcz24_1 := bc BK617 1
            have hcz24_2 := bc BK617 2
            have hfz24_0 := bf BK617 0
            have hfz24_1 := bf BK617 1
            have hfz24_2 := bf BK617 2
            have p620 : 0 ≤ (x13_2 : Int) := pa
            have q620 : x13_2 < (t611.length : Int) := pa
            obtain ⟨ad620, e620, hx620_0, hx620_1, hx620_2⟩ := at_T49 (Kd.R_reads' HO_618000.out).2.2 x13_2 p620 q620
            cases e620
            replace p620 := eq_true p620
            replace q620 := eq_true q620
            go_wp2
            go_ret3
            exact fi HB
          ·rw [if_neg c21] at H
           have c21b0 : decide (x11_2 < (wrap64 (86400 * (wrap64 (((rd_T49 t611 x13_2).f0) - x12_2))))) = false := decide_eq_false c21
           clear c21
           by_cases c25 : (wrap64 (x11_2 - (wrap64 (86400 * (wrap64 (((rd_T49 t611 x13_2).f0) - x12_2)))))) < (wrap64 (86400 + ((rd_T49 t611 x13_2).f1)))
           ·rw [if_pos c25] at H
            have c25b0 : decide ((wrap64 (x11_2 - (wrap64 (86400 * (wrap64 (((rd_T49 t611 x13_2).f0) - x12_2)))))) < (wrap64 (86400 + ((rd_T49 t611 x13_2).f1)))) = true := decide_eq_true c25
            clear c25
            simp only [Option.some.injEq, Prod.mk.injEq] at H
            obtain ⟨rfl, rfl, rfl⟩ := H
            have hcz26_0 := bc BK617 0
            have hcz26_1 := bc BK617 1
            have hcz26_2 := bc BK617 2
            have hfz26_0 := bf BK617 0
            have hfz26_1 := bf BK617 1
            have hfz26_2 := bf BK617 2
            have p620 : 0 ≤ (x13_2 : Int) := pa
            have q620 : x13_2 < (t611.length : Int) := pa
            obtain ⟨ad620, e620, hx620_0, hx620_1, hx620_2⟩ := at_T49 (Kd.R_reads' HO_618000.out).2.2 x13_2 p620 q620
            cases e620
            replace p620 := eq_true p620
            replace q620 := eq_true q620
            have p621 : 0 ≤ (x13_2 : Int) := pa
            have q621 : x13_2 < (t611.length : Int) := pa
            obtain ⟨ad621, e621, hx621_0, hx621_1, hx621_2⟩ := at_T49 (Kd.R_reads' HO_618000.out).2.2 x13_2 p621 q621
            obtain rfl : ad620 = ad621 := (by injection e621)
            replace p621 := eq_true p621
            replace q621 := eq_true q621
            have p622 : 0 ≤ (x13_2 : Int) := pa
            have q622 : x13_2 < (t611.length : Int) := pa
            obtain ⟨ad622, e622, hx622_0, hx622_1, hx622_2⟩ := at_T49 (Kd.R_reads' HO_618000.out).2.2 x13_2 p622 q622
            obtain rfl : ad620 = ad622 := (by injection e622)
            replace p622 := eq_true p622
            replace q622 := eq_true q622
            go_wp2
            go_ret3
            exact fi HB
           ·rw [if_neg c25] at H
            have c25b0 : decide ((wrap64 (x11_2 - (wrap64 (86400 * (wrap64 (((rd_T49 t611 x13_2).f0) - x12_2)))))) < (wrap64 (86400 + ((rd_T49 t611 x13_2).f1)))) = false := decide_eq_false c25
            clear c25
            have H' := Aside0.mk H
            clear H
            have hcz27_0 := bc BK617 0
            have hcz27_1 := bc BK617 1
            have hcz27_2 := bc BK617 2
            have hfz27_0 := bf BK617 0
            have hfz27_1 := bf BK617 1
            have hfz27_2 := bf BK617 2
            have p620 : 0 ≤ (x13_2 : Int) := pa
            have q620 : x13_2 < (t611.length : Int) := pa
            obtain ⟨ad620, e620, hx620_0, hx620_1, hx620_2⟩ := at_T49 (Kd.R_reads' HO_618000.out).2.2 x13_2 p620 q620
            cases e620
            replace p620 := eq_true p620
            replace q620 := eq_true q620
            have p621 : 0 ≤ (x13_2 : Int) := pa
            have q621 : x13_2 < (t611.length : Int) := pa
            obtain ⟨ad621, e621, hx621_0, hx621_1, hx621_2⟩ := at_T49 (Kd.R_reads' HO_618000.out).2.2 x13_2 p621 q621
            obtain rfl : ad620 = ad621 := (by injection e621)
            replace p621 := eq_true p621
            replace q621 := eq_true q621
            have p622 : 0 ≤ (x13_2 : Int) := pa
            have q622 : x13_2 < (t611.length : Int) := pa
            obtain ⟨ad622, e622, hx622_0, hx622_1, hx622_2⟩ := at_T49 (Kd.R_reads' HO_618000.out).2.2 x13_2 p622 q622
            obtain rfl : ad620 = ad622 := (by injection e622)
            replace p622 := eq_true p622
            replace q622 := eq_true q622
            have p623 : 0 ≤ (x13_2 : Int) := pa
            have q623 : x13_2 < (t611.length : Int) := pa
            obtain ⟨ad623, e623, hx623_0, hx623_1, hx623_2⟩ := at_T49 (Kd.R_reads' HO_618000.out).2.2 x13_2 p623 q623
            obtain rfl : ad620 = ad623 := (by injection e623)
            replace p623 := eq_true p623
            replace q623 := eq_true q623
            go_wp2
            go_roundg k2
            case measure => have := HJ10.out; have := HK2.out; omega
            case rel => exact ⟨(wrap64 ((wrap64 ((wrap64 (x11_2 - (wrap64 (86400 * (wrap64 (((rd_T49 t611 x13_2).f0) - x12_2)))))) - 86400)) - ((rd_T49 t611 x13_2).f1))), (wrap64 (((rd_T49 t611 x13_2).f0) + 1)), (wrap64 (x13_2 + 1)), pr, pr, pr, H', ⟨by have := HJ10.out; have := HK2.out; omega⟩, ra HO_618000, ka BK617, ba HB⟩
         ·rw [if_neg c20] at H
          exact absurd H (by simp)
        ·rw [if_neg c19] at H
         have c19b0 : decide (x13_2 < (t611.length : Int)) = false := decide_eq_false c19
         clear c19
         by_cases c28 : (wrap64 (x12_2 + (wrap64 (Int.tdiv x11_2 86400)))) > 2932896
         ·rw [if_pos c28] at H
          have c28b0 : decide (2932896 < (wrap64 (x12_2 + (wrap64 (Int.tdiv x11_2 86400))))) = true := decide_eq_true c28
          clear c28
          simp only [Option.some.injEq, Prod.mk.injEq] at H
          obtain ⟨rfl, rfl, rfl⟩ := H
          have hcz29_0 := bc BK617 0
          have hcz29_1 := bc BK617 1
          have hcz29_2 := bc BK617 2
          have hfz29_0 := bf BK617 0
          have hfz29_1 := bf BK617 1
          have hfz29_2 := bf BK617 2
          go_wp2
          go_ret3
          exact fi HB
         ·rw [if_neg c28] at H
          have c28b0 : decide (2932896 < (wrap64 (x12_2 + (wrap64 (Int.tdiv x11_2 86400))))) = false := decide_eq_false c28
          clear c28
          simp only [Option.some.injEq, Prod.mk.injEq] at H
          obtain ⟨rfl, rfl, rfl⟩ := H
          have hcz30_0 := bc BK617 0
          have hcz30_1 := bc BK617 1
          have hcz30_2 := bc BK617 2
          have hfz30_0 := bf BK617 0
          have hfz30_1 := bf BK617 1
          have hfz30_2 := bf BK617 2
          go_wp2
          go_ret3
          exact fi HB
 ·replace c4 := Bool.eq_false_iff.mpr c4
  subst c4
  rw [if_neg (show ¬ (false = true) by decide)] at H
  simp only [Option.some.injEq, Prod.mk.injEq] at H
  obtain ⟨rfl, rfl, rfl⟩ := H
  go_enter Try.func50, Try.ntmps50
  go_wp2_with (first | (refine gL (some 17) Try.func70 #[.slice A0 l0.length c0] ?_; (with_reducible refine (epactref22_table.calls k _ _ l0 t611 t614 t615 false _ ?side1 ?side2 A3.out).mono ?_); (case side1 => exact ca HR0); (case side2 => exact HC0.out); rintro e w31 ⟨v612, rfl, ho0, hb⟩; refine ⟨_, rfl, ?_⟩; have HO613 := lw ho0 HB; replace HB := bs HB hb; (try clear hb); (try clear ho0)) | (refine bx 7 #[.slice none 0 0, .bool false, .int .i64 0] 44 ?_; intro gb617 hg w32 hbox hb; have n2_ := Aside0.mk (hbox); have GW617 := gw HB hg; have GE617 := gw HB hg; replace HO613 := rb HO613 hb; replace HB := bs HB hb; have BK617 := n2_; clear n2_; clear hb hbox hg; obtain ⟨Ao33, co33, eo33⟩ := Kd.R_slice HO613.out; subst eo33; have hcz34_0 := bc BK617 0; have hcz34_1 := bc BK617 1; have hcz34_2 := bc BK617 2; have hfz34_0 := bf BK617 0; have hfz34_1 := bf BK617 1; have hfz34_2 := bf BK617 2))
  go_ret3
  exact fi HB

end Go.Proofs.Ythoigncoojcanaa.PAll
