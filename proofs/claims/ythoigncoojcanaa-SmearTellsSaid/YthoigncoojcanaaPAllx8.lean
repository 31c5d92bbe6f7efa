-- Written for this claim by wip/tools of this repo (after the kit's print; own contracts laid in).
import Derived.Test.YthoigncoojcanaaPAllx0
import Derived.Test.YthoigncoojcanaaShort
import Derived.Test.YthoigncoojcanaaPAllx2
import Derived.Test.YthoigncoojcanaaPAllx4
import Derived.Test.YthoigncoojcanaaPAllx5
import Derived.Test.YthoigncoojcanaaPAllx6
import Derived.Test.YthoigncoojcanaaPAllx7
namespace Go.Proofs.Ythoigncoojcanaa.PAll
open Go.RowKit Go.Proofs.YthoigncoojcanaaW.PrintWords Go.Proofs.YthoigncoojcanaaW.PrintLast Go.Proofs.YthoigncoojcanaaW.PrintMore
attribute [local go_sem] max2_int min2_int max_two min_two max_three min_three max_four min_four   -- for this text's walks alone
set_option linter.unusedVariables false
set_option linter.unusedSimpArgs false

/-! ### smear_Smear: function 13 -/
def smear_Smear.f (k : Nat) (l0 : List (S53)) (a1_0 : Int) (a1_1 : Int) : Option (Int × Int × Int) := (smear_Plain.f k l0 a1_0 a1_1).bind fun bt217 => (if bt217.2.2 = 0 then ((smear_find.f k l0 (37, a1_0)).bind fun bt221 => (if bt221.2.2.2 = true then ((smear_nanos.f a1_0 a1_1 bt221.1).bind fun t226 => ((wide_MulDiv.f k t226 86400 bt221.2.2.1).bind fun bt227 => ((smear_later.f bt221.2.1 bt227.1).bind fun bt230 => (some (bt230.1, bt230.2, 0))))) else (some (bt217.1, bt217.2.1, 0)))) else (some (bt217.1, bt217.2.1, bt217.2.2)))
theorem smear_Smear.mono : ∀ a0 a1 a2 k, LeO (smear_Smear.f k a0 a1 a2) (smear_Smear.f (k + 1) a0 a1 a2) := by
 intro a0 a1 a2 k
 unfold smear_Smear.f
 repeat' first
   | (with_reducible exact smear_Plain.mono _ _ _ _)
   | (with_reducible exact smear_find.mono _ _ _)
   | (with_reducible exact wide_MulDiv.mono _ _ _ _)
   | (with_reducible exact LeO.refl _)
   | (with_reducible exact LeO.none _)
   | (with_reducible refine LeO.ite ?_ ?_)
   | (with_reducible refine LeO.bind ?_ (fun _ => ?_))
def smear_Smear.T7 : Bool × List (List Nat × List Nat) := (true, [([], []), ([], []), ([1], [1]), ([0, 2], [0, 2]), ([], []), ([4], [4]), ([3, 5, 3], [3, 5]), ([6], [6]), ([7], [7]), ([7], [7]), ([7], [7]), ([8, 6, 0, 1, 2, 3, 4, 5, 6, 7, 8], [8]), ([9, 11, 0, 1, 2, 3, 4, 5, 6, 7, 8, 9, 11], [9]), ([10, 12, 0, 1, 2, 3, 4, 5, 6, 7, 8, 9, 10, 11, 12], [10])])
def smear_Smear.B7 : List Nat := [0, 0, 2, 7, 0, 16, 63, 127, 255, 255, 255, 511, 3071, 8191]
theorem smear_Smear.tab7 : rtab .any (opsOf Try.f13 7) = smear_Smear.T7 := by kernel_rfl
theorem smear_Smear.bits7 : waitsOk smear_Smear.T7.2 smear_Smear.B7 = true := by kernel_rfl
set_option maxHeartbeats 8000000 in
set_option maxRecDepth 100000 in
theorem smear_Smear.calls (k : Nat) (A0 : Option Addr) (c0 : Nat) (l0 : List (S53)) (a1_0 : Int) (a1_1 : Int) (r1 : Int) (r2 : Int) (r3 : Int) (w : World) (hr0 : Kd.C k53 w A0 l0.length l0) (hc0 : l0.length ≤ c0) (h : smear_Smear.f k l0 a1_0 a1_1 = some (r1, r2, r3)) :
  Calls Try.prog 13 #[.slice A0 l0.length c0, .agg #[.int .i64 a1_0, .int .i64 a1_1]] w fun e w' => e = .returned (.tuple #[.agg #[.int .i64 r1, .int .i64 r2], .int .i64 r3]) ∧ Below w.heap.size w w' := by
 have hu24 := Try.underlying24
 have hu56 := Try.underlying56
 have HR0 := Aside0.mk hr0
 have HC0 := Aside0.mk hc0
 clear hr0 hc0
 have HB := Aside0.mk (Below.refl w.heap.size w)
 have H : ((smear_Plain.f k l0 a1_0 a1_1).bind fun bt217 => (if bt217.2.2 = 0 then ((smear_find.f k l0 (37, a1_0)).bind fun bt221 => (if bt221.2.2.2 = true then ((smear_nanos.f a1_0 a1_1 bt221.1).bind fun t226 => ((wide_MulDiv.f k t226 86400 bt221.2.2.1).bind fun bt227 => ((smear_later.f bt221.2.1 bt227.1).bind fun bt230 => (some (bt230.1, bt230.2, 0))))) else (some (bt217.1, bt217.2.1, 0)))) else (some (bt217.1, bt217.2.1, bt217.2.2)))) = some (r1, r2, r3) := h
 clear h
 obtain ⟨⟨t217, t218, t219⟩, A3, H⟩ := bnd H
 try dsimp only at H
 by_cases c4 : t219 = 0
 ·rw [if_pos c4] at H
  have c4b0 : (t219 == 0) = true := beq_iff_eq.mpr c4
  have c4b1 : (t219 != 0) = false := bne_eq_false_iff_eq.mpr c4
  clear c4
  obtain ⟨⟨t221, t222, t223, t224⟩, A5, H⟩ := bnd H
  try dsimp only at H
  by_cases c6 : t224 = true
  ·subst c6
   rw [if_pos rfl] at H
   obtain ⟨t226, A7, H⟩ := bnd H
   try dsimp only at H
   obtain ⟨⟨t227, t228, t229⟩, A8, H⟩ := bnd H
   try dsimp only at H
   obtain ⟨⟨t230, t231⟩, A9, H⟩ := bnd H
   try dsimp only at H
   simp only [Option.some.injEq, Prod.mk.injEq] at H
   obtain ⟨rfl, rfl, rfl⟩ := H
   go_enter Try.func13, Try.ntmps13
   try go_wp2_with (first | (refine bx 3 #[.int .i64 a1_0, .int .i64 a1_1] 24 ?_; intro gb215 hg w10 hbox hb; have n1_ := Aside0.mk (hbox); have GW215 := gw HB hg; have GE215 := gw HB hg; replace HB := bs HB hb; have BK215 := n1_; clear n1_; clear hb hbox hg) | (refine bx 4 #[.int .i64 0, .int .i64 0] 24 ?_; intro gb216 hg w11 hbox hb; have n2_ := Aside0.mk (hbox); have GW216 := gw HB hg; have GE216 := gw HB hg; have NB215_216 := nl BK215 hg; have NB216_215 := nr BK215 hg; replace BK215 := kb BK215 hb; replace HB := bs HB hb; have BK216 := n2_; clear n2_; clear hb hbox hg; have hnb12 := NB215_216.out; have hnc12 := NB216_215.out; have hcz13_0 := bc BK215 0; have hcz13_1 := bc BK215 1; have hfz13_0 := bf BK215 0; have hfz13_1 := bf BK215 1) | (refine gM (some 16) Try.func17 #[.slice A0 l0.length c0, .agg #[.int .i64 a1_0, .int .i64 a1_1]] (smear_Plain.calls k _ _ l0 a1_0 a1_1 t217 t218 t219 _ ?side1 ?side2 A3.out) ?_; (case side1 => exact cb HR0 HB); (case side2 => exact HC0.out); intro w14 hb; replace BK215 := kb BK215 hb; replace BK216 := kb BK216 hb; replace HB := bs HB hb; (try clear hb)) | (refine bx 6 #[.int .i64 0, .int .i64 0] 24 ?_; intro gb220 hg w15 hbox hb; have n3_ := Aside0.mk (hbox); have GW220 := gw HB hg; have GE220 := gw HB hg; have NB215_220 := nl BK215 hg; have NB220_215 := nr BK215 hg; have NB216_220 := nl BK216 hg; have NB220_216 := nr BK216 hg; replace BK215 := kb BK215 hb; replace BK216 := kb BK216 hb; replace HB := bs HB hb; have BK220 := n3_; clear n3_; clear hb hbox hg; have hnb16 := NB220_215.out; have hnc16 := NB215_220.out; have hnb17 := NB220_216.out; have hnc17 := NB216_220.out; have hcz18_0 := bc BK220 0; have hcz18_1 := bc BK220 1; have hfz18_0 := bf BK220 0; have hfz18_1 := bf BK220 1; have hcz19_0 := bc BK215 0; have hcz19_1 := bc BK215 1; have hfz19_0 := bf BK215 0; have hfz19_1 := bf BK215 1) | (refine gM (some 26) Try.func30 #[.slice A0 l0.length c0, .func (.func 37) #[] #[.pointer (some ⟨gb215, 0, none⟩)]] (smear_find.calls k _ _ l0 (37, a1_0) t221 t222 t223 true _ ?side1 ?side2 A5.out) ?_; (case side1 => exact cb HR0 HB); (case side2 => exact HC0.out); intro w20 hb; have n0_ := kf BK215 hb; have n1_ := kf BK216 hb; have n2_ := Aside0.mk (blk_below (g := gb220) (o := .cells #[.int .i64 t217, .int .i64 t218] 24 (0, 0)) (by (with_reducible repeat (first | refine blk_drewN ?_ _ | refine blk_drew ?_ | refine blk_alloc ?_ _)); refine blk_put (cs := #[.int .i64 t217, .int .i64 0]) ?_ 1 _ rfl; (with_reducible repeat (first | refine blk_drewN ?_ _ | refine blk_drew ?_ | refine blk_alloc ?_ _)); refine blk_put (cs := #[.int .i64 0, .int .i64 0]) ?_ 0 _ rfl; (with_reducible repeat (first | refine blk_drewN ?_ _ | refine blk_drew ?_ | refine blk_alloc ?_ _)); exact BK220.out) hb); replace HB := bs HB hb; clear BK215; clear BK216; clear BK220; have BK215 := n0_; have BK216 := n1_; have BK220 := n2_; clear n0_ n1_ n2_; (try clear hb)) | (refine bx 8 #[.int .i64 0, .int .i64 0, .int .i64 0] 56 ?_; intro gb225 hg w21 hbox hb; have n4_ := Aside0.mk (hbox); have GW225 := gw HB hg; have GE225 := gw HB hg; have NB215_225 := nl BK215 hg; have NB225_215 := nr BK215 hg; have NB216_225 := nl BK216 hg; have NB225_216 := nr BK216 hg; have NB220_225 := nl BK220 hg; have NB225_220 := nr BK220 hg; replace BK215 := kb BK215 hb; replace BK216 := kb BK216 hb; replace BK220 := kb BK220 hb; replace HB := bs HB hb; have BK225 := n4_; clear n4_; clear hb hbox hg; have hnb22 := NB225_215.out; have hnc22 := NB215_225.out; have hnb23 := NB225_216.out; have hnc23 := NB216_225.out; have hnb24 := NB225_220.out; have hnc24 := NB220_225.out; have hcz25_0 := bc BK225 0; have hcz25_1 := bc BK225 1; have hcz25_2 := bc BK225 2; have hfz25_0 := bf BK225 0; have hfz25_1 := bf BK225 1; have hfz25_2 := bf BK225 2))
   have n0_ : Aside0 ((((w21.setCell ⟨gb225, 0, none⟩ (.int .i64 t221)).setCell ⟨gb225, 1, none⟩ (.int .i64 t222)).setCell ⟨gb225, 2, none⟩ (.int .i64 t223)).heap[gb215]? = some (.cells #[.int .i64 a1_0, .int .i64 a1_1] 24 (0, 0))) := kg BK215
   have n1_ : Aside0 ((((w21.setCell ⟨gb225, 0, none⟩ (.int .i64 t221)).setCell ⟨gb225, 1, none⟩ (.int .i64 t222)).setCell ⟨gb225, 2, none⟩ (.int .i64 t223)).heap[gb216]? = some (.cells #[.int .i64 0, .int .i64 0] 24 (0, 0))) := kg BK216
   have n2_ : Aside0 ((((w21.setCell ⟨gb225, 0, none⟩ (.int .i64 t221)).setCell ⟨gb225, 1, none⟩ (.int .i64 t222)).setCell ⟨gb225, 2, none⟩ (.int .i64 t223)).heap[gb220]? = some (.cells #[.int .i64 t217, .int .i64 t218] 24 (0, 0))) := kg BK220
   have n3_ : Aside0 ((((w21.setCell ⟨gb225, 0, none⟩ (.int .i64 t221)).setCell ⟨gb225, 1, none⟩ (.int .i64 t222)).setCell ⟨gb225, 2, none⟩ (.int .i64 t223)).heap[gb225]? = some (.cells #[.int .i64 t221, .int .i64 t222, .int .i64 t223] 56 (0, 0))) := ⟨by (with_reducible repeat (first | refine blk_drewN ?_ _ | refine blk_drew ?_ | refine blk_alloc ?_ _)); refine blk_put (cs := #[.int .i64 t221, .int .i64 t222, .int .i64 0]) ?_ 2 _ rfl; (with_reducible repeat (first | refine blk_drewN ?_ _ | refine blk_drew ?_ | refine blk_alloc ?_ _)); refine blk_put (cs := #[.int .i64 t221, .int .i64 0, .int .i64 0]) ?_ 1 _ rfl; (with_reducible repeat (first | refine blk_drewN ?_ _ | refine blk_drew ?_ | refine blk_alloc ?_ _)); refine blk_put (cs := #[.int .i64 0, .int .i64 0, .int .i64 0]) ?_ 0 _ rfl; (with_reducible repeat (first | refine blk_drewN ?_ _ | refine blk_drew ?_ | refine blk_alloc ?_ _)); exact BK225.out⟩
   have n4_ : Aside0 (Below w.heap.size w (((w21.setCell ⟨gb225, 0, none⟩ (.int .i64 t221)).setCell ⟨gb225, 1, none⟩ (.int .i64 t222)).setCell ⟨gb225, 2, none⟩ (.int .i64 t223))) := ba HB
   (try clear BK215)
   (try clear BK216)
   (try clear BK220)
   (try clear BK225)
   (try clear HB)
   generalize (((w21.setCell ⟨gb225, 0, none⟩ (.int .i64 t221)).setCell ⟨gb225, 1, none⟩ (.int .i64 t222)).setCell ⟨gb225, 2, none⟩ (.int .i64 t223)) = w26 at n0_ n1_ n2_ n3_ n4_ ⊢
   have BK215 := n0_
   have BK216 := n1_
   have BK220 := n2_
   have BK225 := n3_
   have HB := n4_
   clear n0_ n1_ n2_ n3_ n4_
   have n0_ := Aside0.mk (blk_drew BK215.out)
   have n1_ := Aside0.mk (blk_drew BK216.out)
   have n2_ := Aside0.mk (blk_drew BK220.out)
   have n3_ := Aside0.mk (blk_drew BK225.out)
   have n4_ := Aside0.mk (below_drew1 HB.out)
   clear BK215
   clear BK216
   clear BK220
   clear BK225
   clear HB
   have BK215 := n0_
   have BK216 := n1_
   have BK220 := n2_
   have BK225 := n3_
   have HB := n4_
   clear n0_ n1_ n2_ n3_ n4_
   refine start_ (n := 14) (S := fun w' => w'.cell? ⟨gb215, 0, none⟩ = some (.int .i64 a1_0) ∧ w'.cell? ⟨gb215, 1, none⟩ = some (.int .i64 a1_1) ∧ w'.cell? ⟨gb225, 0, none⟩ = some (.int .i64 t221) ∧ w'.cell? ⟨gb225, 1, none⟩ = some (.int .i64 t222) ∧ w'.cell? ⟨gb225, 2, none⟩ = some (.int .i64 t223)) (ds := []) #[false, false, false, false, false, false, false, false, false, false, false, false, false, false] (by kernel_rfl) rfl rfl ⟨(blk_cell BK215.out 0).trans rfl, (blk_cell BK215.out 1).trans rfl, (blk_cell BK225.out 0).trans rfl, (blk_cell BK225.out 1).trans rfl, (blk_cell BK225.out 2).trans rfl⟩ (fun hHeld => ?_); refine with_tabW smear_Smear.tab7 smear_Smear.bits7 (fun HT_ HW_ => ?_)
   generalize w26.drew = w27 at BK215 BK216 BK220 BK225 HB hHeld ⊢
   refine pu HT_ 1 (some 34) #[false, true, false, false, false, false, false, false, false, false, false, false, false, false] ?_
   refine pu HT_ 4 (some 37) #[false, true, false, false, true, false, false, false, false, false, false, false, false, false] ?_
   refine take_ (i := 0) (N := some 33) (v := ?_) (a' := ?_) #[true, true, false, false, true, false, false, false, false, false, false, false, false, false] rfl rfl (take_ofW HT_.out HW_.out (by kernel_rfl)) (fun _ _ _ h => h) (Or.inl ⟨by rfl, ?_⟩) hHeld ?_ ?_
   rotate_left
   ·rintro w' ⟨s0, s1, s2, s3, s4⟩
    go_simp
    with_reducible rfl
   rotate_left
   ·simp only [Act.put, List.setIfInBounds_toArray, List.set_cons_zero, List.set_cons_succ, i64_w, i32_w]
    rfl
   refine take_ (i := 2) (N := some 35) (v := ?_) (a' := ?_) #[true, true, true, false, true, false, false, false, false, false, false, false, false, false] rfl rfl (take_ofW HT_.out HW_.out (by kernel_rfl)) (fun _ _ _ h => h) (Or.inl ⟨by rfl, ?_⟩) hHeld ?_ ?_
   rotate_left
   ·rintro w' ⟨s0, s1, s2, s3, s4⟩
    go_simp
    with_reducible rfl
   rotate_left
   ·simp only [Act.put, List.setIfInBounds_toArray, List.set_cons_zero, List.set_cons_succ, i64_w, i32_w]
    rfl
   refine take_ (i := 5) (N := some 38) (v := ?_) (a' := ?_) #[true, true, true, false, true, true, false, false, false, false, false, false, false, false] rfl rfl (take_ofW HT_.out HW_.out (by kernel_rfl)) (fun _ _ _ h => h) (Or.inl ⟨by rfl, ?_⟩) hHeld ?_ ?_
   rotate_left
   ·rintro w' ⟨s0, s1, s2, s3, s4⟩
    go_simp
    with_reducible rfl
   rotate_left
   ·simp only [Act.put, List.setIfInBounds_toArray, List.set_cons_zero, List.set_cons_succ, i64_w, i32_w]
    rfl
   refine one_ (i := 3) (N := some 36) #[true, true, true, true, true, true, false, false, false, false, false, false, false, false] rfl rfl (one_of HT_.out (by kernel_rfl)) (by decide) (fun K hK => ?_)
   refine goes_ Try.func39 (by kernel_rfl) rfl #[.agg #[.int .i64 a1_0, .int .i64 a1_1], .int .i64 t221] (by rfl) rfl rfl (by (try simp only [List.map_toArray, List.map_cons, List.map_nil]); first | done | rfl | (simp only [List.length_drop, List.length_take]; rfl)) ?_
   with_reducible refine (smear_nanos.calls a1_0 a1_1 t221 t226 _ A7.out).mono ?_
   rintro e w28 ⟨rfl, hb⟩
   refine ⟨_, rfl, ?_⟩
   have n0_ := kb BK215 hb
   have n1_ := kb BK216 hb
   have n2_ := kb BK220 hb
   have n3_ := kb BK225 hb
   have n4_ := bs HB hb
   clear BK215
   clear BK216
   clear BK220
   clear BK225
   clear HB
   have BK215 := n0_
   have BK216 := n1_
   have BK220 := n2_
   have BK225 := n3_
   have HB := n4_
   clear n0_ n1_ n2_ n3_ n4_
   (try clear hb)
   (try clear hb2)
   (try clear hk)
   (try clear hi)
   refine hK.out _ _ ⟨(blk_cell BK215.out 0).trans rfl, (blk_cell BK215.out 1).trans rfl, (blk_cell BK225.out 0).trans rfl, (blk_cell BK225.out 1).trans rfl, (blk_cell BK225.out 2).trans rfl⟩ (fun hHeld => ?_)
   clear hK K
   refine norm_ (a' := ?_) ?_ ?_
   rotate_left
   ·show Act.put _ (some 36) _ = _
    simp only [Act.put, List.setIfInBounds_toArray, List.set_cons_zero, List.set_cons_succ, i64_w, i32_w]
    rfl
   refine one_ (i := 6) (N := some 39) #[true, true, true, true, true, true, true, false, false, false, false, false, false, false] rfl rfl (one_of HT_.out (by kernel_rfl)) (by decide) (fun K hK => ?_)
   refine goes_ Try.func38 (by kernel_rfl) rfl #[.int .i64 t226, .int .i64 86400, .int .i64 t223] (by rfl) rfl rfl (by (try simp only [List.map_toArray, List.map_cons, List.map_nil]); first | done | rfl | (simp only [List.length_drop, List.length_take]; rfl)) ?_
   with_reducible refine (wide_MulDiv.calls k t226 86400 t223 t227 t228 t229 _ A8.out).mono ?_
   rintro e w' ⟨rfl, ⟨nd, rfl⟩⟩
   refine ⟨_, rfl, ?_⟩
   refine hK.out _ _ ⟨(blk_cell BK215.out 0).trans rfl, (blk_cell BK215.out 1).trans rfl, (blk_cell BK225.out 0).trans rfl, (blk_cell BK225.out 1).trans rfl, (blk_cell BK225.out 2).trans rfl⟩ (fun hHeld => ?_)
   clear hK K
   refine norm_ (a' := ?_) ?_ ?_
   rotate_left
   ·show Act.put _ (some 39) _ = _
    simp only [Act.put, List.setIfInBounds_toArray, List.set_cons_zero, List.set_cons_succ, i64_w, i32_w]
    rfl
   refine pu HT_ 7 (some 32) #[true, true, true, true, true, true, true, true, false, false, false, false, false, false] ?_
   refine pu HT_ 8 (some 40) #[true, true, true, true, true, true, true, true, true, false, false, false, false, false] ?_
   refine pu HT_ 9 (some 41) #[true, true, true, true, true, true, true, true, true, true, false, false, false, false] ?_
   refine pu HT_ 10 (some 42) #[true, true, true, true, true, true, true, true, true, true, true, false, false, false] ?_
   refine pu HT_ 11 (some 10) #[true, true, true, true, true, true, true, true, true, true, true, true, false, false] ?_
   refine pu HT_ 12 (some 11) #[true, true, true, true, true, true, true, true, true, true, true, true, true, false] ?_
   refine pu HT_ 13 (some 12) #[true, true, true, true, true, true, true, true, true, true, true, true, true, true] ?_
   refine done_ (done_of HT_.out (by kernel_rfl)) ?_
   have hcz29_0 := bc BK225 0
   have hcz29_1 := bc BK225 1
   have hcz29_2 := bc BK225 2
   have hfz29_0 := bf BK225 0
   have hfz29_1 := bf BK225 1
   have hfz29_2 := bf BK225 2
   try go_wp2_with (first | (refine gM (some 46) Try.func40 #[.int .i64 t222, .int .i64 t227] (smear_later.calls t222 t227 t230 t231 _ A9.out) ?_; intro w30 hb; replace BK215 := kb BK215 hb; replace BK216 := kb BK216 hb; replace BK220 := kb BK220 hb; replace BK225 := kb BK225 hb; replace HB := bs HB hb; (try clear hb); have hcz31_0 := bc BK216 0; have hcz31_1 := bc BK216 1; have hfz31_0 := bf BK216 0; have hfz31_1 := bf BK216 1))
   refine bodyPost_ret (results_ct rfl _ _ gb216 24 #[.int .i64 t230, .int .i64 t231] (0, 0) _ rfl (by (with_reducible repeat (first | refine blk_drewN ?_ _ | refine blk_drew ?_ | refine blk_alloc ?_ _)); refine blk_put (cs := #[.int .i64 t230, .int .i64 0]) ?_ 1 _ rfl; (with_reducible repeat (first | refine blk_drewN ?_ _ | refine blk_drew ?_ | refine blk_alloc ?_ _)); refine blk_put (cs := #[.int .i64 0, .int .i64 0]) ?_ 0 _ rfl; (with_reducible repeat (first | refine blk_drewN ?_ _ | refine blk_drew ?_ | refine blk_alloc ?_ _)); exact BK216.out) Try.underlying24 rfl (by kernel_rfl)) rfl ?_
   exact fi HB
  ·replace c6 := Bool.eq_false_iff.mpr c6
   subst c6
   rw [if_neg (show ¬ (false = true) by decide)] at H
   simp only [Option.some.injEq, Prod.mk.injEq] at H
   obtain ⟨rfl, rfl, rfl⟩ := H
   go_enter Try.func13, Try.ntmps13
   go_wp2_with (first | (refine bx 3 #[.int .i64 a1_0, .int .i64 a1_1] 24 ?_; intro gb215 hg w32 hbox hb; have n1_ := Aside0.mk (hbox); have GW215 := gw HB hg; have GE215 := gw HB hg; replace HB := bs HB hb; have BK215 := n1_; clear n1_; clear hb hbox hg) | (refine bx 4 #[.int .i64 0, .int .i64 0] 24 ?_; intro gb216 hg w33 hbox hb; have n2_ := Aside0.mk (hbox); have GW216 := gw HB hg; have GE216 := gw HB hg; have NB215_216 := nl BK215 hg; have NB216_215 := nr BK215 hg; replace BK215 := kb BK215 hb; replace HB := bs HB hb; have BK216 := n2_; clear n2_; clear hb hbox hg; have hnb34 := NB215_216.out; have hnc34 := NB216_215.out; have hcz35_0 := bc BK215 0; have hcz35_1 := bc BK215 1; have hfz35_0 := bf BK215 0; have hfz35_1 := bf BK215 1) | (refine gM (some 16) Try.func17 #[.slice A0 l0.length c0, .agg #[.int .i64 a1_0, .int .i64 a1_1]] (smear_Plain.calls k _ _ l0 a1_0 a1_1 t217 t218 t219 _ ?side1 ?side2 A3.out) ?_; (case side1 => exact cb HR0 HB); (case side2 => exact HC0.out); intro w36 hb; replace BK215 := kb BK215 hb; replace BK216 := kb BK216 hb; replace HB := bs HB hb; (try clear hb)) | (refine bx 6 #[.int .i64 0, .int .i64 0] 24 ?_; intro gb220 hg w37 hbox hb; have n3_ := Aside0.mk (hbox); have GW220 := gw HB hg; have GE220 := gw HB hg; have NB215_220 := nl BK215 hg; have NB220_215 := nr BK215 hg; have NB216_220 := nl BK216 hg; have NB220_216 := nr BK216 hg; replace BK215 := kb BK215 hb; replace BK216 := kb BK216 hb; replace HB := bs HB hb; have BK220 := n3_; clear n3_; clear hb hbox hg; have hnb38 := NB220_215.out; have hnc38 := NB215_220.out; have hnb39 := NB220_216.out; have hnc39 := NB216_220.out; have hcz40_0 := bc BK220 0; have hcz40_1 := bc BK220 1; have hfz40_0 := bf BK220 0; have hfz40_1 := bf BK220 1; have hcz41_0 := bc BK215 0; have hcz41_1 := bc BK215 1; have hfz41_0 := bf BK215 0; have hfz41_1 := bf BK215 1) | (refine gM (some 26) Try.func30 #[.slice A0 l0.length c0, .func (.func 37) #[] #[.pointer (some ⟨gb215, 0, none⟩)]] (smear_find.calls k _ _ l0 (37, a1_0) t221 t222 t223 false _ ?side1 ?side2 A5.out) ?_; (case side1 => exact cb HR0 HB); (case side2 => exact HC0.out); intro w42 hb; have n0_ := kf BK215 hb; have n1_ := kf BK216 hb; have n2_ := Aside0.mk (blk_below (g := gb220) (o := .cells #[.int .i64 t217, .int .i64 t218] 24 (0, 0)) (by (with_reducible repeat (first | refine blk_drewN ?_ _ | refine blk_drew ?_ | refine blk_alloc ?_ _)); refine blk_put (cs := #[.int .i64 t217, .int .i64 0]) ?_ 1 _ rfl; (with_reducible repeat (first | refine blk_drewN ?_ _ | refine blk_drew ?_ | refine blk_alloc ?_ _)); refine blk_put (cs := #[.int .i64 0, .int .i64 0]) ?_ 0 _ rfl; (with_reducible repeat (first | refine blk_drewN ?_ _ | refine blk_drew ?_ | refine blk_alloc ?_ _)); exact BK220.out) hb); replace HB := bs HB hb; clear BK215; clear BK216; clear BK220; have BK215 := n0_; have BK216 := n1_; have BK220 := n2_; clear n0_ n1_ n2_; (try clear hb)) | (refine bx 8 #[.int .i64 0, .int .i64 0, .int .i64 0] 56 ?_; intro gb225 hg w43 hbox hb; have n4_ := Aside0.mk (hbox); have GW225 := gw HB hg; have GE225 := gw HB hg; have NB215_225 := nl BK215 hg; have NB225_215 := nr BK215 hg; have NB216_225 := nl BK216 hg; have NB225_216 := nr BK216 hg; have NB220_225 := nl BK220 hg; have NB225_220 := nr BK220 hg; replace BK215 := kb BK215 hb; replace BK216 := kb BK216 hb; replace BK220 := kb BK220 hb; replace HB := bs HB hb; have BK225 := n4_; clear n4_; clear hb hbox hg; have hnb44 := NB225_215.out; have hnc44 := NB215_225.out; have hnb45 := NB225_216.out; have hnc45 := NB216_225.out; have hnb46 := NB225_220.out; have hnc46 := NB220_225.out; have hcz47_0 := bc BK225 0; have hcz47_1 := bc BK225 1; have hcz47_2 := bc BK225 2; have hfz47_0 := bf BK225 0; have hfz47_1 := bf BK225 1; have hfz47_2 := bf BK225 2; have hcz48_0 := bc BK220 0; have hcz48_1 := bc BK220 1; have hfz48_0 := bf BK220 0; have hfz48_1 := bf BK220 1; have hcz49_0 := bc BK216 0; have hcz49_1 := bc BK216 1; have hfz49_0 := bf BK216 0; have hfz49_1 := bf BK216 1))
   refine bodyPost_ret (results_ct rfl _ _ gb216 24 #[.int .i64 t217, .int .i64 t218] (0, 0) _ rfl (by (with_reducible repeat (first | refine blk_drewN ?_ _ | refine blk_drew ?_ | refine blk_alloc ?_ _)); refine blk_put (cs := #[.int .i64 t217, .int .i64 0]) ?_ 1 _ rfl; (with_reducible repeat (first | refine blk_drewN ?_ _ | refine blk_drew ?_ | refine blk_alloc ?_ _)); refine blk_put (cs := #[.int .i64 0, .int .i64 0]) ?_ 0 _ rfl; (with_reducible repeat (first | refine blk_drewN ?_ _ | refine blk_drew ?_ | refine blk_alloc ?_ _)); refine blk_far ?_ NB216_225.out _; (with_reducible repeat (first | refine blk_drewN ?_ _ | refine blk_drew ?_ | refine blk_alloc ?_ _)); refine blk_far ?_ NB216_225.out _; (with_reducible repeat (first | refine blk_drewN ?_ _ | refine blk_drew ?_ | refine blk_alloc ?_ _)); refine blk_far ?_ NB216_225.out _; (with_reducible repeat (first | refine blk_drewN ?_ _ | refine blk_drew ?_ | refine blk_alloc ?_ _)); exact BK216.out) Try.underlying24 rfl (by kernel_rfl)) rfl ?_
   exact fi HB
 ·rw [if_neg c4] at H
  have c4b0 : (t219 == 0) = false := beq_eq_false_iff_ne.mpr c4
  have c4b1 : (t219 != 0) = true := bne_iff_ne.mpr c4
  simp only [Option.some.injEq, Prod.mk.injEq] at H
  obtain ⟨rfl, rfl, rfl⟩ := H
  go_enter Try.func13, Try.ntmps13
  go_wp2_with (first | (refine bx 3 #[.int .i64 a1_0, .int .i64 a1_1] 24 ?_; intro gb215 hg w50 hbox hb; have n1_ := Aside0.mk (hbox); have GW215 := gw HB hg; have GE215 := gw HB hg; replace HB := bs HB hb; have BK215 := n1_; clear n1_; clear hb hbox hg) | (refine bx 4 #[.int .i64 0, .int .i64 0] 24 ?_; intro gb216 hg w51 hbox hb; have n2_ := Aside0.mk (hbox); have GW216 := gw HB hg; have GE216 := gw HB hg; have NB215_216 := nl BK215 hg; have NB216_215 := nr BK215 hg; replace BK215 := kb BK215 hb; replace HB := bs HB hb; have BK216 := n2_; clear n2_; clear hb hbox hg; have hnb52 := NB215_216.out; have hnc52 := NB216_215.out; have hcz53_0 := bc BK215 0; have hcz53_1 := bc BK215 1; have hfz53_0 := bf BK215 0; have hfz53_1 := bf BK215 1) | (refine gM (some 16) Try.func17 #[.slice A0 l0.length c0, .agg #[.int .i64 a1_0, .int .i64 a1_1]] (smear_Plain.calls k _ _ l0 a1_0 a1_1 t217 t218 t219 _ ?side1 ?side2 A3.out) ?_; (case side1 => exact cb HR0 HB); (case side2 => exact HC0.out); intro w54 hb; replace BK215 := kb BK215 hb; replace BK216 := kb BK216 hb; replace HB := bs HB hb; (try clear hb)) | (refine bx 6 #[.int .i64 0, .int .i64 0] 24 ?_; intro gb220 hg w55 hbox hb; have n3_ := Aside0.mk (hbox); have GW220 := gw HB hg; have GE220 := gw HB hg; have NB215_220 := nl BK215 hg; have NB220_215 := nr BK215 hg; have NB216_220 := nl BK216 hg; have NB220_216 := nr BK216 hg; replace BK215 := kb BK215 hb; replace BK216 := kb BK216 hb; replace HB := bs HB hb; have BK220 := n3_; clear n3_; clear hb hbox hg; have hnb56 := NB220_215.out; have hnc56 := NB215_220.out; have hnb57 := NB220_216.out; have hnc57 := NB216_220.out; have hcz58_0 := bc BK220 0; have hcz58_1 := bc BK220 1; have hfz58_0 := bf BK220 0; have hfz58_1 := bf BK220 1; have hcz59_0 := bc BK216 0; have hcz59_1 := bc BK216 1; have hfz59_0 := bf BK216 0; have hfz59_1 := bf BK216 1))
  refine bodyPost_ret (results_ct rfl _ _ gb216 24 #[.int .i64 t217, .int .i64 t218] (0, 0) _ rfl (by (with_reducible repeat (first | refine blk_drewN ?_ _ | refine blk_drew ?_ | refine blk_alloc ?_ _)); refine blk_put (cs := #[.int .i64 t217, .int .i64 0]) ?_ 1 _ rfl; (with_reducible repeat (first | refine blk_drewN ?_ _ | refine blk_drew ?_ | refine blk_alloc ?_ _)); refine blk_put (cs := #[.int .i64 0, .int .i64 0]) ?_ 0 _ rfl; (with_reducible repeat (first | refine blk_drewN ?_ _ | refine blk_drew ?_ | refine blk_alloc ?_ _)); refine blk_far ?_ NB216_220.out _; (with_reducible repeat (first | refine blk_drewN ?_ _ | refine blk_drew ?_ | refine blk_alloc ?_ _)); refine blk_far ?_ NB216_220.out _; (with_reducible repeat (first | refine blk_drewN ?_ _ | refine blk_drew ?_ | refine blk_alloc ?_ _)); exact BK216.out) Try.underlying24 rfl (by kernel_rfl)) rfl ?_
  exact fi HB

/-! ### wide_Up: function 45 -/
def wide_Up.j0 : Nat → Int → Int → Bool → Option (Int × Bool)
 | 0, _, _, _ => none
 | k + 1, x8, x9, x19 => if x19 = true then (some (0, false)) else (if x9 > 0 then (some (wrap64 (x8 + 1), true)) else (some (x8, true)))
def wide_Up.f (k : Nat) (a0 : Int) (a1 : Int) (a2 : Int) : Option (Int × Bool) := (wide_MulDiv.f k a0 a1 a2).bind fun bt232 => (if bt232.2.2 = true then (if bt232.2.1 > 0 then (wide_Up.j0 k bt232.1 bt232.2.1 (bt232.1 == 9223372036854775807)) else (wide_Up.j0 k bt232.1 bt232.2.1 false)) else (wide_Up.j0 k bt232.1 bt232.2.1 (!bt232.2.2)))
theorem wide_Up.mono_l : ∀ k, (∀ y0 y1 y2, LeO (wide_Up.j0 k y0 y1 y2) (wide_Up.j0 (k + 1) y0 y1 y2))
 | 0 => fun _ _ _ r h => by simp [wide_Up.j0] at h
 | k + 1 => by
  have ih0 := wide_Up.mono_l k
  ·intro y0 y1 y2
   unfold wide_Up.j0
   repeat' first
   | (with_reducible exact ih0 _ _ _)
   | (with_reducible exact wide_MulDiv.mono _ _ _ _)
   | (with_reducible exact LeO.refl _)
   | (with_reducible exact LeO.none _)
   | (with_reducible refine LeO.ite ?_ ?_)
   | (with_reducible refine LeO.bind ?_ (fun _ => ?_))
theorem wide_Up.mono : ∀ a0 a1 a2 k, LeO (wide_Up.f k a0 a1 a2) (wide_Up.f (k + 1) a0 a1 a2) := by
 intro a0 a1 a2 k
 have ih0 := wide_Up.mono_l k
 unfold wide_Up.f
 repeat' first
   | (with_reducible exact ih0 _ _ _)
   | (with_reducible exact wide_MulDiv.mono _ _ _ _)
   | (with_reducible exact LeO.refl _)
   | (with_reducible exact LeO.none _)
   | (with_reducible refine LeO.ite ?_ ?_)
   | (with_reducible refine LeO.bind ?_ (fun _ => ?_))
set_option maxHeartbeats 8000000 in
set_option maxRecDepth 100000 in
theorem wide_Up.calls (k : Nat) (a0 : Int) (a1 : Int) (a2 : Int) (r1 : Int) (r2 : Bool) (w : World) (h : wide_Up.f k a0 a1 a2 = some (r1, r2)) :
  Calls Try.prog 45 #[.int .i64 a0, .int .i64 a1, .int .i64 a2] w fun e w' => e = .returned (.tuple #[.int .i64 r1, .bool r2]) ∧ Drawn0 w w' := by
 have H : ((wide_MulDiv.f k a0 a1 a2).bind fun bt232 => (if bt232.2.2 = true then (if bt232.2.1 > 0 then (wide_Up.j0 k bt232.1 bt232.2.1 (bt232.1 == 9223372036854775807)) else (wide_Up.j0 k bt232.1 bt232.2.1 false)) else (wide_Up.j0 k bt232.1 bt232.2.1 (!bt232.2.2)))) = some (r1, r2) := h
 clear h
 obtain ⟨⟨t232, t233, t234⟩, A4, H⟩ := bnd H
 try dsimp only at H
 have HC5 := Aside0.mk H
 clear H
 go_enter Try.func45, Try.ntmps45
 go_upto_if 19 with (first | (refine gN (some 15) Try.func38 #[.int .i64 a0, .int .i64 a1, .int .i64 a2] (wide_MulDiv.calls k a0 a1 a2 t232 t233 t234 _ A4.out) ?_; intro nd))
 (try simp only [Act.put, List.setIfInBounds_toArray, List.set_cons_zero, List.set_cons_succ])
 go_cut [19] (fun v19 wc => ∃ (kq : Nat) (x19_4 : Bool), v19 = .bool x19_4 ∧ Aside0 (wide_Up.j0 kq t232 t233 x19_4 = some (r1, r2)) ∧ Aside0 (kq ≤ k) ∧ Drawn0 w wc)
 case first =>
  have H := HC5.out
  clear HC5
  by_cases c6 : t234 = true
  ·subst c6
   rw [if_pos rfl] at H
   by_cases c7 : t233 > 0
   ·rw [if_pos c7] at H
    have c7b0 : decide (0 < t233) = true := decide_eq_true c7
    clear c7
    (first | rw [c7b0] | (simp only [i64_w, i32_w]; rw [c7b0]) | skip)
    have H' := Aside0.mk H
    clear H
    go_wp2
    go_meet
    case rel => exact ⟨_, ((t232 == 9223372036854775807)), pr, H', om, by repeat (first | exact Drawn0.refl _ | apply Drawn0.step)⟩
   ·rw [if_neg c7] at H
    have c7b0 : decide (0 < t233) = false := decide_eq_false c7
    clear c7
    (first | rw [c7b0] | (simp only [i64_w, i32_w]; rw [c7b0]) | skip)
    have H' := Aside0.mk H
    clear H
    go_wp2
    go_meet
    case rel => exact ⟨_, (false), pr, H', om, by repeat (first | exact Drawn0.refl _ | apply Drawn0.step)⟩
  ·replace c6 := Bool.eq_false_iff.mpr c6
   subst c6
   rw [if_neg (show ¬ (false = true) by decide)] at H
   have H' := Aside0.mk H
   clear H
   go_wp2
   go_meet
   case rel => exact ⟨_, (!false), pr, H', om, by repeat (first | exact Drawn0.refl _ | apply Drawn0.step)⟩
 case rest =>
  clear HC5
  try clear p2
  try clear c3
  try clear c4
  try clear c6
  try clear c7
  try clear c7b0
  obtain ⟨kq, x19_4, rfl, HA, HJ4, ⟨mc4, rfl⟩⟩ := hcut
  cases kq with
  | zero => exact absurd HA.out (by simp [wide_Up.j0])
  | succ kj4 =>
   have H := HA.out
   clear HA
   simp only [wide_Up.j0] at H
   by_cases c8 : x19_4 = true
   ·subst c8
    rw [if_pos rfl] at H
    simp only [Option.some.injEq, Prod.mk.injEq] at H
    obtain ⟨rfl, rfl⟩ := H
    go_wp2
    go_ret2
    exact fd
   ·replace c8 := Bool.eq_false_iff.mpr c8
    subst c8
    rw [if_neg (show ¬ (false = true) by decide)] at H
    by_cases c9 : t233 > 0
    ·rw [if_pos c9] at H
     have c9b0 : decide (0 < t233) = true := decide_eq_true c9
     clear c9
     simp only [Option.some.injEq, Prod.mk.injEq] at H
     obtain ⟨rfl, rfl⟩ := H
     go_wp2
     go_ret2
     exact fd
    ·rw [if_neg c9] at H
     have c9b0 : decide (0 < t233) = false := decide_eq_false c9
     clear c9
     simp only [Option.some.injEq, Prod.mk.injEq] at H
     obtain ⟨rfl, rfl⟩ := H
     go_wp2
     go_ret2
     exact fd

/-! ### posix_Day: function 77 -/
def posix_Day.f (a0 : Int) : Option (Int × Int) := (num_Div.f a0 86400).bind fun bt235 => (some (bt235.1, bt235.2.1))
set_option maxHeartbeats 8000000 in
set_option maxRecDepth 100000 in
theorem posix_Day.calls (a0 : Int) (r1 : Int) (r2 : Int) (w : World) (h : posix_Day.f a0 = some (r1, r2)) :
  Calls Try.prog 77 #[.int .i64 a0] w fun e w' => e = .returned (.tuple #[.int .i64 r1, .int .i64 r2]) ∧ Drawn0 w w' := by
 have H : ((num_Div.f a0 86400).bind fun bt235 => (some (bt235.1, bt235.2.1))) = some (r1, r2) := h
 clear h
 obtain ⟨⟨t235, t236, t237⟩, A2, H⟩ := bnd H
 try dsimp only at H
 simp only [Option.some.injEq, Prod.mk.injEq] at H
 obtain ⟨rfl, rfl⟩ := H
 go_enter Try.func77, Try.ntmps77
 go_wp2_with (first | (refine gN (some 6) Try.func57 #[.int .i64 a0, .int .i64 86400] (num_Div.calls a0 86400 t235 t236 t237 _ A2.out) ?_; intro nd))
 go_ret2
 exact fd

/-! ### api_Leap_int: function 111 -/
-- by hand: wip/hand
def api_Leap_int.cnt (l : List S49) (d : Int) : Nat := l.countP (fun y => decide (y.f0 < d))
/-- rows that are searched: not too long, in order, of days that are not too great -/
def api_Leap_int.Fair (l : List S49) (d : Int) : Prop := l.length < 4611686018427387904 ∧ l.Pairwise (fun x y => x.f0 ≤ y.f0) ∧ (∀ y ∈ l, -1152921504606846976 ≤ y.f0 ∧ y.f0 ≤ 1152921504606846976) ∧ -1152921504606846976 ≤ d ∧ d ≤ 1152921504606846976
instance (l : List S49) (d : Int) : Decidable (api_Leap_int.Fair l d) := by unfold api_Leap_int.Fair; exact inferInstance
def api_Leap_int.f (l0 : List (S49)) (a1 : Int) (a2 : Nat) : Option (Int × Bool) :=
 if api_Leap_int.Fair l0 a1 ∧ a2 = 112 then some (((api_Leap_int.cnt l0 a1 : Nat) : Int), decide (api_Leap_int.cnt l0 a1 < l0.length) && decide ((l0.getD (api_Leap_int.cnt l0 a1) z49).f0 = a1)) else none
/-- the closure of step: how far a leap's day is behind a day -/
theorem api_Leap_int.clo (x : S49) (d : Int) (w W : World) (hb : Below w.heap.size w W) :
  Calls Try.prog 112 #[.agg #[.int .i64 x.f0, .int .i64 x.f1, .bool x.f2], .int .i64 d] W fun e w' => e = .returned (.int .i64 (wrap64 (x.f0 - d))) ∧ Below w.heap.size w w' := by
 have hu := Try.underlying49
 go_enter Try.func112, Try.ntmps112
 go_wp2
 all_goals (try go_region)
 all_goals (try go_wp2)
 all_goals go_ret
 all_goals exact ⟨by first | rfl | simp [wrap64], by first | exact hb.alloc hb.size _ | exact hb | repeat (first | exact hb | apply below_alloc | apply below_drew1 | apply pw_below_drewN)⟩
theorem api_Leap_int.cntb (p : S49 → Bool) : ∀ (l : List S49) (i : Nat), i ≤ l.length → (∀ t, t < i → p (l.getD t z49) = true) → (∀ t, i ≤ t → t < l.length → p (l.getD t z49) = false) → l.countP p = i
 | [], i, hi, _, _ => by simp at hi; simp [hi]
 | a :: r, 0, _, _, h2 => by
  rw [List.countP_eq_zero]
  intro x hx
  obtain ⟨t, ht, rfl⟩ := List.getElem_of_mem hx
  have := h2 t (Nat.zero_le _) ht
  simp only [List.getD_eq_getElem?_getD, List.getElem?_eq_getElem ht, Option.getD_some] at this
  simp [this]
 | a :: r, i + 1, hi, h1, h2 => by
  have ha : p a = true := by simpa using h1 0 (Nat.succ_pos _)
  rw [List.countP_cons_of_pos ha, api_Leap_int.cntb p r i (by simpa using hi) (fun t ht => by simpa using h1 (t + 1) (by omega)) (fun t h3 h4 => by simpa using h2 (t + 1) (by omega) (by simpa using h4))]
theorem api_Leap_int.asc_at {l : List S49} (h : l.Pairwise (fun x y => x.f0 ≤ y.f0)) (a b : Nat) (hab : a ≤ b) (hb : b < l.length) : (l.getD a z49).f0 ≤ (l.getD b z49).f0 := by
 have ha : a < l.length := by omega
 simp only [List.getD_eq_getElem?_getD, List.getElem?_eq_getElem ha, List.getElem?_eq_getElem hb, Option.getD_some]
 by_cases e : a = b
 ·subst e; exact Int.le_refl _
 ·exact List.pairwise_iff_getElem.mp h a b ha hb (by omega)
set_option maxHeartbeats 4000000 in
set_option maxRecDepth 1000000 in
theorem api_Leap_int.calls (A0 : Option Addr) (c0 : Nat) (l0 : List (S49)) (a1 : Int) (a2 : Nat) (r1 : Int) (r2 : Bool) (w : World) (hr0 : Kd.C k49 w A0 l0.length l0) (hc0 : l0.length ≤ c0) (h : api_Leap_int.f l0 a1 a2 = some (r1, r2)) :
  Calls Try.prog 111 #[.slice A0 l0.length c0, .int .i64 a1, .func (.func a2) #[] #[]] w fun e w' => e = .returned (.tuple #[.int .i64 r1, .bool r2]) ∧ Below w.heap.size w w' := by
 unfold api_Leap_int.f at h
 by_cases hs : api_Leap_int.Fair l0 a1 ∧ a2 = 112
 case neg => rw [if_neg hs] at h; exact absurd h (by simp)
 rw [if_pos hs] at h
 obtain ⟨⟨hsz, hasc, hdays, hd1, hd2⟩, rfl⟩ := hs
 generalize hcnt : api_Leap_int.cnt l0 a1 = cnt at h
 have CN : Aside (api_Leap_int.cnt l0 a1 = cnt) := hcnt
 clear hcnt
 have E := Option.some.inj h
 simp only [Prod.mk.injEq] at E
 obtain ⟨rfl, hfin⟩ := E
 have FIN : Aside ((decide (cnt < l0.length) && decide ((l0.getD cnt z49).f0 = a1)) = r2) := hfin
 have ASC : Aside (l0.Pairwise (fun x y => x.f0 ≤ y.f0)) := hasc
 have DAYS : Aside ((∀ y ∈ l0, -1152921504606846976 ≤ y.f0 ∧ y.f0 ≤ 1152921504606846976) ∧ -1152921504606846976 ≤ a1 ∧ a1 ≤ 1152921504606846976) := ⟨hdays, hd1, hd2⟩
 have HC := Aside0.mk hr0
 clear hr0 hc0 h hfin hasc hdays hd1 hd2
 have u3 := Try.underlying3
 have uu := Try.underlying88
 go_enter Try.func111, Try.ntmps111
 go_wp2
 go_loopg [9, 10] l0.length (fun kx s9 s10 wr => ∃ lo hi : Nat, s9 = .int .i64 lo ∧ s10 = .int .i64 hi ∧ lo ≤ hi ∧ hi ≤ l0.length ∧ hi - lo ≤ kx ∧ Aside (Below w.heap.size w wr) ∧
  Aside ((∀ t, t < lo → (l0.getD t z49).f0 < a1) ∧ (∀ t, hi ≤ t → t < l0.length → a1 ≤ (l0.getD t z49).f0)))
 case atStart => exact ⟨0, l0.length, rfl, rfl, Nat.zero_le _, Nat.le_refl _, by omega, Below.refl _ w, (⟨fun t ht => absurd ht (Nat.not_lt_zero _), fun t h1 h2 => by omega⟩ : (∀ t, t < 0 → (l0.getD t z49).f0 < a1) ∧ (∀ t, l0.length ≤ t → t < l0.length → a1 ≤ (l0.getD t z49).f0))⟩
 case round =>
  obtain ⟨lo, hi, rfl, rfl, hlh, hin, hg, BW, I⟩ := hrel
  have vals : ∀ t, t < l0.length → wrap64 ((l0.getD t z49).f0 - a1) = (l0.getD t z49).f0 - a1 := by
   intro t ht
   have m : l0.getD t z49 ∈ l0 := by simp [List.getD, ht]
   have := DAYS.out.1 _ m; have := DAYS.out.2; unfold wrap64; omega
  have VALS : Aside (∀ t, t < l0.length → wrap64 ((l0.getD t z49).f0 - a1) = (l0.getD t z49).f0 - a1) := vals
  clear vals
  by_cases hlt : lo < hi
  ·have hmid : (lo + hi) / 2 < l0.length := by omega
   obtain ⟨ad, e0, hx0, hx1, hx2⟩ := at_T49 (Kd.C_below HC.out BW.out) (((lo + hi) / 2 : Nat) : Int) (by omega) (by omega)
   cases e0
   simp only [Int.toNat_natCast] at hx0 hx1 hx2
   have hv := VALS.out ((lo + hi) / 2) hmid
   have hy : rd_T49 l0 (((lo + hi) / 2 : Nat) : Int) = l0.getD ((lo + hi) / 2) z49 := by unfold rd_T49; rw [Int.toNat_natCast]
   rw [hy] at hx0 hx1 hx2
   have hcall := api_Leap_int.clo (l0.getD ((lo + hi) / 2) z49) a1 w wr BW.out
   rw [hv] at hcall
   clear hv hy
   generalize hgy : l0.getD ((lo + hi) / 2) z49 = y at hx0 hx1 hx2 hcall
   have Y : Aside (l0.getD ((lo + hi) / 2) z49 = y) := hgy
   clear hgy
   generalize hgv : y.f0 - a1 = v at hcall
   have V : Aside (y.f0 - a1 = v) := hgv
   clear hgv
   by_cases hyx : v < 0
   ·go_wp2_with (first | (go_at_call 112; refine hcall.mono ?_; rintro e w' ⟨rfl, hb'⟩) | (go_at_fn 112; refine hcall.mono ?_; rintro e w' ⟨rfl, hb'⟩))
    go_roundg (hi - ((lo + hi) / 2 + 1))
    case measure => omega
    case rel =>
     have I2 : Aside ((∀ t, t < (lo + hi) / 2 + 1 → (l0.getD t z49).f0 < a1) ∧ (∀ t, hi ≤ t → t < l0.length → a1 ≤ (l0.getD t z49).f0)) := ⟨fun t ht => by
      have a := api_Leap_int.asc_at ASC.out t ((lo + hi) / 2) (by omega) (by omega)
      rw [Y.out] at a; have := V.out; omega, I.out.2⟩
     exact ⟨(lo + hi) / 2 + 1, hi, by first | rfl | (refine congrArg (Value.int .i64) ?_; omega), rfl, by omega, hin, Nat.le_refl _, hb', I2⟩
   ·go_wp2_with (first | (go_at_call 112; refine hcall.mono ?_; rintro e w' ⟨rfl, hb'⟩) | (go_at_fn 112; refine hcall.mono ?_; rintro e w' ⟨rfl, hb'⟩))
    go_roundg ((lo + hi) / 2 - lo)
    case measure => omega
    case rel =>
     have I2 : Aside ((∀ t, t < lo → (l0.getD t z49).f0 < a1) ∧ (∀ t, (lo + hi) / 2 ≤ t → t < l0.length → a1 ≤ (l0.getD t z49).f0)) := ⟨I.out.1, fun t ht htn => by
      have a := api_Leap_int.asc_at ASC.out ((lo + hi) / 2) t ht htn
      rw [Y.out] at a; have := V.out; omega⟩
     exact ⟨lo, (lo + hi) / 2, rfl, by first | rfl | (refine congrArg (Value.int .i64) ?_; omega), by omega, by omega, Nat.le_refl _, hb', I2⟩
  ·obtain rfl : hi = lo := by omega
   have ecnt : cnt = hi := by
    rw [← CN.out]
    refine api_Leap_int.cntb _ l0 hi hin (fun t ht => ?_) (fun t h3 h4 => ?_)
    ·exact decide_eq_true (I.out.1 t ht)
    ·exact decide_eq_false (by have := I.out.2 t h3 h4; omega)
   subst ecnt
   by_cases hn : cnt < l0.length
   ·obtain ⟨ad, e0, hx0, hx1, hx2⟩ := at_T49 (Kd.C_below HC.out BW.out) (cnt : Int) (by omega) (by omega)
    cases e0
    simp only [Int.toNat_natCast] at hx0 hx1 hx2
    have hv := VALS.out cnt hn
    have hy : rd_T49 l0 (cnt : Int) = l0.getD cnt z49 := by unfold rd_T49; rw [Int.toNat_natCast]
    rw [hy] at hx0 hx1 hx2
    have hcall := api_Leap_int.clo (l0.getD cnt z49) a1 w wr BW.out
    rw [hv] at hcall
    clear hv hy
    generalize hgy : l0.getD cnt z49 = y at hx0 hx1 hx2 hcall
    have Y : Aside (l0.getD cnt z49 = y) := hgy
    clear hgy
    generalize hgv : y.f0 - a1 = v at hcall
    have V : Aside (y.f0 - a1 = v) := hgv
    clear hgv
    by_cases hyx : v = 0
    ·go_wp2_with (first | (go_at_call 112; refine hcall.mono ?_; rintro e w' ⟨rfl, hb'⟩) | (go_at_fn 112; refine hcall.mono ?_; rintro e w' ⟨rfl, hb'⟩))
     go_ret2
     refine ⟨?_, hb'⟩
     have : y.f0 = a1 := by have := V.out; omega
     rw [← FIN.out, Y.out]; simp [hn, hyx, this]
    ·go_wp2_with (first | (go_at_call 112; refine hcall.mono ?_; rintro e w' ⟨rfl, hb'⟩) | (go_at_fn 112; refine hcall.mono ?_; rintro e w' ⟨rfl, hb'⟩))
     go_ret2
     refine ⟨?_, hb'⟩
     have : ¬ y.f0 = a1 := by have := V.out; omega
     rw [← FIN.out, Y.out]; simp [hn, hyx, this]
   ·go_wp2
    go_ret2
    exact ⟨by rw [← FIN.out]; simp [hn], BW.out⟩

/-! ### scale_step: function 106 -/
def scale_step.f (k : Nat) (l0 : List (S53)) (a1 : Int) : Option (Int) := (record_Table.f k l0).bind fun bt238 => ((api_Leap_int.f bt238.1 a1 112).bind fun bt245 => (if bt245.2 = true then (if 0 ≤ bt245.1 then (if bt245.1 < (bt238.1.length : Int) then (some ((rd_T49 bt238.1 bt245.1).f1)) else (none)) else (none)) else (some 0)))
theorem scale_step.mono : ∀ a0 a1 k, LeO (scale_step.f k a0 a1) (scale_step.f (k + 1) a0 a1) := by
 intro a0 a1 k
 unfold scale_step.f
 repeat' first
   | (with_reducible exact record_Table.mono _ _)
   | (with_reducible exact LeO.refl _)
   | (with_reducible exact LeO.none _)
   | (with_reducible refine LeO.ite ?_ ?_)
   | (with_reducible refine LeO.bind ?_ (fun _ => ?_))
set_option maxHeartbeats 8000000 in
set_option maxRecDepth 100000 in
theorem scale_step.calls (k : Nat) (A0 : Option Addr) (c0 : Nat) (l0 : List (S53)) (a1 : Int) (r : Int) (w : World) (hr0 : Kd.C k53 w A0 l0.length l0) (hc0 : l0.length ≤ c0) (h : scale_step.f k l0 a1 = some r) :
  Calls Try.prog 106 #[.slice A0 l0.length c0, .int .i64 a1] w fun e w' => e = .returned (.int .i64 r) ∧ Below w.heap.size w w' := by
 have hu44 := Try.underlying44
 have HR0 := Aside0.mk hr0
 have HC0 := Aside0.mk hc0
 clear hr0 hc0
 have HB := Aside0.mk (Below.refl w.heap.size w)
 have H : ((record_Table.f k l0).bind fun bt238 => ((api_Leap_int.f bt238.1 a1 112).bind fun bt245 => (if bt245.2 = true then (if 0 ≤ bt245.1 then (if bt245.1 < (bt238.1.length : Int) then (some ((rd_T49 bt238.1 bt245.1).f1)) else (none)) else (none)) else (some 0)))) = some r := h
 clear h
 obtain ⟨⟨t238, t241, t242, t243⟩, A3, H⟩ := bnd H
 try dsimp only at H
 obtain ⟨⟨t245, t246⟩, A4, H⟩ := bnd H
 try dsimp only at H
 by_cases c5 : t246 = true
 ·subst c5
  rw [if_pos rfl] at H
  by_cases c6 : 0 ≤ t245
  ·rw [if_pos c6] at H
   have c6b0 : decide (0 ≤ t245) = true := decide_eq_true c6
   clear c6
   by_cases c7 : t245 < (t238.length : Int)
   ·rw [if_pos c7] at H
    have c7b0 : decide (t245 < (t238.length : Int)) = true := decide_eq_true c7
    clear c7
    obtain rfl := Option.some.inj H
    go_enter Try.func106, Try.ntmps106
    go_wp2_with (first | (refine gL (some 11) Try.func67 #[.slice A0 l0.length c0] ?_; (with_reducible refine (record_Table.calls k _ _ l0 t238 t241 t242 t243 _ ?side1 ?side2 A3.out).mono ?_); (case side1 => exact ca HR0); (case side2 => exact HC0.out); rintro e w8 ⟨v239, rfl, ho0, hb⟩; refine ⟨_, rfl, ?_⟩; have HO240 := lw ho0 HB; replace HB := bs HB hb; (try clear hb); (try clear hb2); (try clear hk); (try clear hi); (try clear ho0)) | (refine bx 5 #[.slice none 0 0, .bool false, .int .i64 0] 44 ?_; intro gb244 hg w9 hbox hb; have n2_ := Aside0.mk (hbox); have GW244 := gw HB hg; have GE244 := gw HB hg; replace HO240 := rb HO240 hb; replace HB := bs HB hb; have BK244 := n2_; clear n2_; clear hb hbox hg; obtain ⟨Ao10, co10, eo10⟩ := Kd.R_slice HO240.out; subst eo10; have hcz11_0 := bc BK244 0; have hcz11_1 := bc BK244 1; have hcz11_2 := bc BK244 2; have hfz11_0 := bf BK244 0; have hfz11_1 := bf BK244 1; have hfz11_2 := bf BK244 2) | (refine gM (some 18) Try.func111 #[.slice Ao10 t238.length co10, .int .i64 a1, .func (.func 112) #[] #[]] (api_Leap_int.calls _ _ t238 a1 112 t245 true _ ?side1 ?side2 A4.out) ?_; (case side1 => refine (Kd.R_reads' (e := 49) (base := w.heap.size) (ok := fun k_ => True) (n := t238.length) (c := co10) ?_).2.2; exact (by (with_reducible repeat (first | apply Kd.R_alloc | apply Kd.R_drewN | apply Kd.R_drew)); exact (Kd.R_mono (Kd.R_far (p := ⟨gb244, 2, none⟩) (Kd.R_far (p := ⟨gb244, 1, none⟩) (Kd.R_far (p := ⟨gb244, 0, none⟩) (Kd.R_types HO240.out BK244.out (by decide)) (fun _ hk => hk.2) (.slice Ao10 t238.length co10)) (fun _ hk => hk.2) (.bool t241)) (fun _ hk => hk.2) (.int .i64 t242)) (fun _ h_ => h_.1)))); (case side2 => exact (Kd.R_reads' HO240.out).2.1); intro w12 hb; have n0_ := Aside0.mk (Kd.R_below (by (with_reducible repeat (first | apply Kd.R_alloc | apply Kd.R_drewN | apply Kd.R_drew)); exact (Kd.R_mono (Kd.R_far (p := ⟨gb244, 2, none⟩) (Kd.R_far (p := ⟨gb244, 1, none⟩) (Kd.R_far (p := ⟨gb244, 0, none⟩) (Kd.R_types HO240.out BK244.out (by decide)) (fun _ hk => hk.2) (.slice Ao10 t238.length co10)) (fun _ hk => hk.2) (.bool t241)) (fun _ hk => hk.2) (.int .i64 t242)) (fun _ h_ => h_.1))) hb); have n1_ := Aside0.mk (blk_below (g := gb244) (o := .cells #[.slice Ao10 t238.length co10, .bool t241, .int .i64 t242] 44 (0, 0)) (by (with_reducible repeat (first | refine blk_drewN ?_ _ | refine blk_drew ?_ | refine blk_alloc ?_ _)); refine blk_put (cs := #[.slice Ao10 t238.length co10, .bool t241, .int .i64 0]) ?_ 2 _ rfl; (with_reducible repeat (first | refine blk_drewN ?_ _ | refine blk_drew ?_ | refine blk_alloc ?_ _)); refine blk_put (cs := #[.slice Ao10 t238.length co10, .bool false, .int .i64 0]) ?_ 1 _ rfl; (with_reducible repeat (first | refine blk_drewN ?_ _ | refine blk_drew ?_ | refine blk_alloc ?_ _)); refine blk_put (cs := #[.slice none 0 0, .bool false, .int .i64 0]) ?_ 0 _ rfl; (with_reducible repeat (first | refine blk_drewN ?_ _ | refine blk_drew ?_ | refine blk_alloc ?_ _)); exact BK244.out) hb); replace HB := bs HB hb; clear HO240; clear BK244; have HO240 := n0_; have BK244 := n1_; clear n0_ n1_; (try clear hb); (try clear hb2); (try clear hk); (try clear hi); have hcz13_0 := bc BK244 0; have hcz13_1 := bc BK244 1; have hcz13_2 := bc BK244 2; have hfz13_0 := bf BK244 0; have hfz13_1 := bf BK244 1; have hfz13_2 := bf BK244 2; have p247 : 0 ≤ (t245 : Int) := pa; have q247 : t245 < (t238.length : Int) := pa; obtain ⟨ad247, e247, hx247_0, hx247_1, hx247_2⟩ := at_T49 (Kd.R_reads' HO240.out).2.2 t245 p247 q247; cases e247; replace p247 := eq_true p247; replace q247 := eq_true q247))
    go_ret
    exact fi HB
   ·rw [if_neg c7] at H
    exact absurd H (by simp)
  ·rw [if_neg c6] at H
   exact absurd H (by simp)
 ·replace c5 := Bool.eq_false_iff.mpr c5
  subst c5
  rw [if_neg (show ¬ (false = true) by decide)] at H
  obtain rfl := Option.some.inj H
  go_enter Try.func106, Try.ntmps106
  go_wp2_with (first | (refine gL (some 11) Try.func67 #[.slice A0 l0.length c0] ?_; (with_reducible refine (record_Table.calls k _ _ l0 t238 t241 t242 t243 _ ?side1 ?side2 A3.out).mono ?_); (case side1 => exact ca HR0); (case side2 => exact HC0.out); rintro e w14 ⟨v239, rfl, ho0, hb⟩; refine ⟨_, rfl, ?_⟩; have HO240 := lw ho0 HB; replace HB := bs HB hb; (try clear hb); (try clear hb2); (try clear hk); (try clear hi); (try clear ho0)) | (refine bx 5 #[.slice none 0 0, .bool false, .int .i64 0] 44 ?_; intro gb244 hg w15 hbox hb; have n2_ := Aside0.mk (hbox); have GW244 := gw HB hg; have GE244 := gw HB hg; replace HO240 := rb HO240 hb; replace HB := bs HB hb; have BK244 := n2_; clear n2_; clear hb hbox hg; obtain ⟨Ao16, co16, eo16⟩ := Kd.R_slice HO240.out; subst eo16; have hcz17_0 := bc BK244 0; have hcz17_1 := bc BK244 1; have hcz17_2 := bc BK244 2; have hfz17_0 := bf BK244 0; have hfz17_1 := bf BK244 1; have hfz17_2 := bf BK244 2) | (refine gM (some 18) Try.func111 #[.slice Ao16 t238.length co16, .int .i64 a1, .func (.func 112) #[] #[]] (api_Leap_int.calls _ _ t238 a1 112 t245 false _ ?side1 ?side2 A4.out) ?_; (case side1 => refine (Kd.R_reads' (e := 49) (base := w.heap.size) (ok := fun k_ => True) (n := t238.length) (c := co16) ?_).2.2; exact (by (with_reducible repeat (first | apply Kd.R_alloc | apply Kd.R_drewN | apply Kd.R_drew)); exact (Kd.R_mono (Kd.R_far (p := ⟨gb244, 2, none⟩) (Kd.R_far (p := ⟨gb244, 1, none⟩) (Kd.R_far (p := ⟨gb244, 0, none⟩) (Kd.R_types HO240.out BK244.out (by decide)) (fun _ hk => hk.2) (.slice Ao16 t238.length co16)) (fun _ hk => hk.2) (.bool t241)) (fun _ hk => hk.2) (.int .i64 t242)) (fun _ h_ => h_.1)))); (case side2 => exact (Kd.R_reads' HO240.out).2.1); intro w18 hb; have n0_ := Aside0.mk (Kd.R_below (by (with_reducible repeat (first | apply Kd.R_alloc | apply Kd.R_drewN | apply Kd.R_drew)); exact (Kd.R_mono (Kd.R_far (p := ⟨gb244, 2, none⟩) (Kd.R_far (p := ⟨gb244, 1, none⟩) (Kd.R_far (p := ⟨gb244, 0, none⟩) (Kd.R_types HO240.out BK244.out (by decide)) (fun _ hk => hk.2) (.slice Ao16 t238.length co16)) (fun _ hk => hk.2) (.bool t241)) (fun _ hk => hk.2) (.int .i64 t242)) (fun _ h_ => h_.1))) hb); have n1_ := Aside0.mk (blk_below (g := gb244) (o := .cells #[.slice Ao16 t238.length co16, .bool t241, .int .i64 t242] 44 (0, 0)) (by (with_reducible repeat (first | refine blk_drewN ?_ _ | refine blk_drew ?_ | refine blk_alloc ?_ _)); refine blk_put (cs := #[.slice Ao16 t238.length co16, .bool t241, .int .i64 0]) ?_ 2 _ rfl; (with_reducible repeat (first | refine blk_drewN ?_ _ | refine blk_drew ?_ | refine blk_alloc ?_ _)); refine blk_put (cs := #[.slice Ao16 t238.length co16, .bool false, .int .i64 0]) ?_ 1 _ rfl; (with_reducible repeat (first | refine blk_drewN ?_ _ | refine blk_drew ?_ | refine blk_alloc ?_ _)); refine blk_put (cs := #[.slice none 0 0, .bool false, .int .i64 0]) ?_ 0 _ rfl; (with_reducible repeat (first | refine blk_drewN ?_ _ | refine blk_drew ?_ | refine blk_alloc ?_ _)); exact BK244.out) hb); replace HB := bs HB hb; clear HO240; clear BK244; have HO240 := n0_; have BK244 := n1_; clear n0_ n1_; (try clear hb); (try clear hb2); (try clear hk); (try clear hi)))
  go_ret
  exact fi HB

/-! ### scale_Length: function 97 -/
def scale_Length.f (k : Nat) (l0 : List (S53)) (a1 : Int) : Option (Int × Int) := (scale_Known.f k l0).bind fun t248 => (if t248 = true then (if a1 < 730 then (some (0, 9)) else (if a1 > 2932896 then (some (0, 9)) else ((scale_step.f k l0 a1).bind fun t249 => (some (wrap64 (86400 + t249), 0))))) else (some (0, 1)))
theorem scale_Length.mono : ∀ a0 a1 k, LeO (scale_Length.f k a0 a1) (scale_Length.f (k + 1) a0 a1) := by
 intro a0 a1 k
 unfold scale_Length.f
 repeat' first
   | (with_reducible exact scale_Known.mono _ _)
   | (with_reducible exact scale_step.mono _ _ _)
   | (with_reducible exact LeO.refl _)
   | (with_reducible exact LeO.none _)
   | (with_reducible refine LeO.ite ?_ ?_)
   | (with_reducible refine LeO.bind ?_ (fun _ => ?_))
set_option maxHeartbeats 8000000 in
set_option maxRecDepth 100000 in
theorem scale_Length.calls (k : Nat) (A0 : Option Addr) (c0 : Nat) (l0 : List (S53)) (a1 : Int) (r1 : Int) (r2 : Int) (w : World) (hr0 : Kd.C k53 w A0 l0.length l0) (hc0 : l0.length ≤ c0) (h : scale_Length.f k l0 a1 = some (r1, r2)) :
  Calls Try.prog 97 #[.slice A0 l0.length c0, .int .i64 a1] w fun e w' => e = .returned (.tuple #[.int .i64 r1, .int .i64 r2]) ∧ Below w.heap.size w w' := by
 have HR0 := Aside0.mk hr0
 have HC0 := Aside0.mk hc0
 clear hr0 hc0
 have HB := Aside0.mk (Below.refl w.heap.size w)
 have H : ((scale_Known.f k l0).bind fun t248 => (if t248 = true then (if a1 < 730 then (some (0, 9)) else (if a1 > 2932896 then (some (0, 9)) else ((scale_step.f k l0 a1).bind fun t249 => (some (wrap64 (86400 + t249), 0))))) else (some (0, 1)))) = some (r1, r2) := h
 clear h
 obtain ⟨t248, A3, H⟩ := bnd H
 try dsimp only at H
 by_cases c4 : t248 = true
 ·subst c4
  rw [if_pos rfl] at H
  by_cases c5 : a1 < 730
  ·rw [if_pos c5] at H
   have c5b0 : decide (a1 < 730) = true := decide_eq_true c5
   clear c5
   simp only [Option.some.injEq, Prod.mk.injEq] at H
   obtain ⟨rfl, rfl⟩ := H
   go_enter Try.func97, Try.ntmps97
   go_wp2_with (first | (refine gM (some 8) Try.func29 #[.slice A0 l0.length c0] (scale_Known.calls k _ _ l0 true _ ?side1 ?side2 A3.out) ?_; (case side1 => exact ca HR0); (case side2 => exact HC0.out); intro w6 hb; replace HB := bs HB hb; (try clear hb)))
   go_ret2
   exact fi HB
  ·rw [if_neg c5] at H
   have c5b0 : decide (a1 < 730) = false := decide_eq_false c5
   clear c5
   by_cases c7 : a1 > 2932896
   ·rw [if_pos c7] at H
    have c7b0 : decide (2932896 < a1) = true := decide_eq_true c7
    clear c7
    simp only [Option.some.injEq, Prod.mk.injEq] at H
    obtain ⟨rfl, rfl⟩ := H
    go_enter Try.func97, Try.ntmps97
    go_wp2_with (first | (refine gM (some 8) Try.func29 #[.slice A0 l0.length c0] (scale_Known.calls k _ _ l0 true _ ?side1 ?side2 A3.out) ?_; (case side1 => exact ca HR0); (case side2 => exact HC0.out); intro w8 hb; replace HB := bs HB hb; (try clear hb)))
    go_ret2
    exact fi HB
   ·rw [if_neg c7] at H
    have c7b0 : decide (2932896 < a1) = false := decide_eq_false c7
    clear c7
    obtain ⟨t249, A9, H⟩ := bnd H
    try dsimp only at H
    simp only [Option.some.injEq, Prod.mk.injEq] at H
    obtain ⟨rfl, rfl⟩ := H
    go_enter Try.func97, Try.ntmps97
    go_wp2_with (first | (refine gM (some 8) Try.func29 #[.slice A0 l0.length c0] (scale_Known.calls k _ _ l0 true _ ?side1 ?side2 A3.out) ?_; (case side1 => exact ca HR0); (case side2 => exact HC0.out); intro w10 hb; replace HB := bs HB hb; (try clear hb)) | (refine gM (some 17) Try.func106 #[.slice A0 l0.length c0, .int .i64 a1] (scale_step.calls k _ _ l0 a1 t249 _ ?side1 ?side2 A9.out) ?_; (case side1 => exact cb HR0 HB); (case side2 => exact HC0.out); intro w11 hb; replace HB := bs HB hb; (try clear hb)))
    go_ret2
    exact fi HB
 ·replace c4 := Bool.eq_false_iff.mpr c4
  subst c4
  rw [if_neg (show ¬ (false = true) by decide)] at H
  simp only [Option.some.injEq, Prod.mk.injEq] at H
  obtain ⟨rfl, rfl⟩ := H
  go_enter Try.func97, Try.ntmps97
  go_wp2_with (first | (refine gM (some 8) Try.func29 #[.slice A0 l0.length c0] (scale_Known.calls k _ _ l0 false _ ?side1 ?side2 A3.out) ?_; (case side1 => exact ca HR0); (case side2 => exact HC0.out); intro w12 hb; replace HB := bs HB hb; (try clear hb)))
  go_ret2
  exact fi HB

/-! ### scale_begins: function 98 -/
-- by hand: wip/hand
/-- the steps of the leaps ahead of a day, from the first one on -/
def scale_begins.sum (d : Int) : List S49 → Int → Int
 | [], s => s
 | y :: ys, s => if y.f0 < d then scale_begins.sum d ys (wrap64 (s + y.f1)) else s
def scale_begins.f (k : Nat) (l0 : List (S53)) (a1 : Int) : Option (Int) := (record_Table.f k l0).bind fun bt => some (wrap64 (wrap64 (a1 * 86400) + scale_begins.sum a1 bt.1 0))
theorem scale_begins.mono : ∀ a0 a1 k, LeO (scale_begins.f k a0 a1) (scale_begins.f (k + 1) a0 a1) := by
 intro a0 a1 k
 unfold scale_begins.f
 exact LeO.bind (record_Table.mono _ _) (fun _ => LeO.refl _)
def scale_begins.intOf : Value → Int
 | .int _ n => n
 | _ => 0
theorem scale_begins.sum_drop (d : Int) (ys : List S49) (kk : Nat) (s : Int) (h : kk < ys.length) : scale_begins.sum d (ys.drop kk) s = if (rd_T49 ys ((kk : Nat) : Int)).f0 < d then scale_begins.sum d (ys.drop (kk + 1)) (wrap64 (s + (rd_T49 ys ((kk : Nat) : Int)).f1)) else s := by
 have e : rd_T49 ys (kk : Int) = ys[kk] := by unfold rd_T49; rw [Int.toNat_natCast]; simp [List.getD, h]
 rw [e, List.drop_eq_getElem_cons h]; rfl
theorem scale_begins.mid (w w9 : World) (gb : Nat) (Ao : Option Addr) (co : Nat) (ys : List S49) (b1 : Bool) (e1 : Int)
  (HO : Kd.R k49 49 w9 w.heap.size (fun _ => True) (.slice Ao ys.length co) ys) (BK : w9.heap[gb]? = some (.cells #[.slice none 0 0, .bool false, .int .i64 0] 44 (0, 0))) (HB : Below w.heap.size w w9) (GE : w.heap.size ≤ gb) :
  ∃ W3, W3 = ((w9.setCell ⟨gb, 0, none⟩ (.slice Ao ys.length co)).setCell ⟨gb, 1, none⟩ (.bool b1)).setCell ⟨gb, 2, none⟩ (.int .i64 e1) ∧ Kd.C k49 W3 Ao ys.length ys ∧ W3.cell? ⟨gb, 0, none⟩ = some (.slice Ao ys.length co) ∧ Below w.heap.size w W3 ∧ ys.length ≤ 9223372036854775807 := by
 have HC : Kd.C k49 (((w9.setCell ⟨gb, 0, none⟩ (.slice Ao ys.length co)).setCell ⟨gb, 1, none⟩ (.bool b1)).setCell ⟨gb, 2, none⟩ (.int .i64 e1)) Ao ys.length ys := by
  refine (Kd.R_reads' (e := 49) (base := w.heap.size) (ok := fun k_ => True) (n := ys.length) (c := co) ?_).2.2
  exact (Kd.R_mono (Kd.R_far (p := ⟨gb, 2, none⟩) (Kd.R_far (p := ⟨gb, 1, none⟩) (Kd.R_far (p := ⟨gb, 0, none⟩) (Kd.R_types HO BK (by decide)) (fun _ hk => hk.2) (.slice Ao ys.length co)) (fun _ hk => hk.2) (.bool b1)) (fun _ hk => hk.2) (.int .i64 e1)) (fun _ h_ => h_.1))
 refine ⟨_, rfl, HC, ?_, below_set (below_set (below_set HB GE) GE) GE, HC.2.1⟩
 have b := blk_put (cs' := #[.slice Ao ys.length co, .bool b1, .int .i64 e1]) (blk_put (cs' := #[.slice Ao ys.length co, .bool b1, .int .i64 0]) (blk_put (cs' := #[.slice Ao ys.length co, .bool false, .int .i64 0]) BK 0 (.slice Ao ys.length co) rfl) 1 (.bool b1) rfl) 2 (.int .i64 e1) rfl
 exact (blk_cell b 0).trans rfl
def scale_begins.J (A0 : Option Addr) (c0 : Nat) (l0 : List S53) (a1 : Int) (ys : List S49) (ok : Bool) (w : World) : Act → World → Prop := fun a' w' =>
 ∃ (gb : Nat) (Ao : Option Addr) (co kk : Nat) (s : Int) (u9 u10 u11 u12 u13 u14 u15 u16 u17 u18 u19 u20 u21 u22 u23 u24 u25 u26 u27 u28 u29 u30 u31 u32 u33 u34 u35 u36 u37 u38 u39 u40 u41 u42 : Value), a' = { tmps := #[.slice A0 l0.length c0, .int .i64 a1, undef, undef, .int .i64 0, .pointer (some ⟨gb, 0, none⟩), .bool ok, .int .i64 (kk : Nat), .int .i64 s, u9, u10, u11, u12, u13, u14, u15, u16, u17, u18, u19, u20, u21, u22, u23, u24, u25, u26, u27, u28, u29, u30, u31, u32, u33, u34, u35, u36, u37, u38, u39, u40, u41, u42], defers := [] } ∧ kk ≤ ys.length ∧ ys.length ≤ 9223372036854775807 ∧ w'.cell? ⟨gb, 0, none⟩ = some (.slice Ao ys.length co) ∧ Aside0 (Kd.C k49 w' Ao ys.length ys) ∧ Aside0 (Below w.heap.size w w') ∧ Aside0 (scale_begins.sum a1 (ys.drop kk) s = scale_begins.sum a1 ys 0)
set_option maxHeartbeats 8000000 in
set_option maxRecDepth 100000 in
theorem scale_begins.calls (k : Nat) (A0 : Option Addr) (c0 : Nat) (l0 : List (S53)) (a1 : Int) (r : Int) (w : World) (hr0 : Kd.C k53 w A0 l0.length l0) (hc0 : l0.length ≤ c0) (h : scale_begins.f k l0 a1 = some r) :
  Calls Try.prog 98 #[.slice A0 l0.length c0, .int .i64 a1] w fun e w' => e = .returned (.int .i64 r) ∧ Below w.heap.size w w' := by
 have hu38 := Try.underlying44
 have huL := Try.underlying49
 have HR0 := Aside0.mk hr0
 have HC0 := Aside0.mk hc0
 clear hr0 hc0
 unfold scale_begins.f at h
 obtain ⟨⟨ys, b1, e1, ok⟩, hT, h⟩ := Option.bind_eq_some_iff.mp h
 have HT := Aside0.mk hT
 have E := Option.some.inj h
 have FIN : Aside0 (∀ (s : Int), scale_begins.sum a1 ys 0 = s → wrap64 (wrap64 (a1 * 86400) + s) = r) := ⟨fun s hs => by rw [← hs]; exact E⟩
 clear hT h E
 go_enter Try.func98, Try.ntmps98
 go_wp2
 refine wp_scope_jumps 0 (scale_begins.J A0 c0 l0 a1 ys ok w) (fun a' _ => ys.length - (scale_begins.intOf (a'.tmps.getD 7 undef)).toNat) rfl ?_ ?_
 ·go_wp2_with (first | ((with_reducible refine gate_callee (f := 67) rfl ?_); refine goesL_ (some 11) rfl rfl Try.func67 (by kernel_rfl) rfl #[.slice A0 l0.length c0] rfl (by (try simp only [List.map_toArray, List.map_cons, List.map_nil]); first | done | rfl) ?_; (with_reducible refine (record_Table.calls k _ _ l0 ys b1 e1 ok _ ?side1 ?side2 HT.out).mono ?_); (case side1 => exact HR0.out); (case side2 => exact HC0.out); rintro e w8 ⟨v181, rfl, ho0, hb⟩; refine ⟨_, rfl, ?_⟩; have HO182 := Aside0.mk ho0; have HB2 := Aside0.mk hb; clear hb ho0) | (refine bx 5 #[.slice none 0 0, .bool false, .int .i64 0] 44 ?_; intro gb hg w9 hbox hb; have HO := Aside0.mk (Kd.R_below HO182.out hb); have HB3 := Aside0.mk (below_step HB2.out hb); have BK := Aside0.mk hbox; have GE := Aside0.mk ((by rw [hg]; exact below_size HB2.out) : w.heap.size ≤ gb); clear HO182 HB2 hb hbox hg; obtain ⟨Ao, co, eo⟩ := Kd.R_slice HO.out; subst eo; have hcz0 : w9.cell? ⟨gb, 0, none⟩ = some (.slice none 0 0) := (blk_cell BK.out 0).trans rfl; have hcz1 : w9.cell? ⟨gb, 1, none⟩ = some (.bool false) := (blk_cell BK.out 1).trans rfl; have hcz2 : w9.cell? ⟨gb, 2, none⟩ = some (.int .i64 0) := (blk_cell BK.out 2).trans rfl; have hfz0 := blk_frozen BK.out 0; have hfz1 := blk_frozen BK.out 1; have hfz2 := blk_frozen BK.out 2))
  clear hcz0 hcz1 hcz2 hfz0 hfz1 hfz2
  obtain ⟨W3, hW3, hC, hcell, hB, hlen⟩ := scale_begins.mid w w9 gb Ao co ys b1 e1 HO.out BK.out HB3.out GE.out
  rw [← hW3]
  have HC3 := Aside0.mk hC
  have HB4 := Aside0.mk hB
  clear hC hB HO BK HB3 GE hW3
  go_step3
  by_cases hlt : 0 < ys.length
  ·obtain ⟨ad, e0, hx0, hx1, hx2⟩ := at_T49 HC3.out (((0 : Nat) : Int) : Int) (by omega) (by omega)
   cases e0
   simp only [Int.toNat_natCast] at hx0 hx1 hx2
   have hltz : (0 : Int) < (ys.length : Int) := by omega
   simp only [Nat.zero_mul] at hx0 hx1 hx2
   rw [show ad.add 0 = ad from rfl] at hx0 hx1 hx2
   have hsd := scale_begins.sum_drop a1 ys 0 0 hlt
   generalize hgy : rd_T49 ys ((0 : Nat) : Int) = y at hx0 hx1 hx2 hsd
   have Y := Aside0.mk hgy
   clear hgy
   have SD := Aside0.mk hsd
   clear hsd
   by_cases hd : y.f0 < a1
   ·go_wp2
    try go_step3
    refine ⟨rfl, gb, some ad, co, 1, wrap64 y.f1, _, _, _, _, _, _, _, _, _, _, _, _, _, _, _, _, _, _, _, _, _, _, _, _, _, _, _, _, _, _, _, _, _, _, rfl, by omega, hlen, hcell, HC3, HB4, ⟨?_⟩⟩
    have q := SD.out; rw [if_pos (by omega), Int.zero_add] at q; exact q.symm
   ·go_wp2
    simp only [Exit.jump]
    go_ret
    refine ⟨?_, HB4.out⟩
    have q := SD.out; rw [if_neg (by omega)] at q; have z := FIN.out 0 q; rw [Int.add_zero] at z; rw [z]; rfl
  ·have hltz : ¬ (0 : Int) < (ys.length : Int) := by omega
   go_wp2
   simp only [Exit.jump]
   go_ret
   refine ⟨?_, HB4.out⟩
   have q : scale_begins.sum a1 ys 0 = 0 := by cases ys with | nil => rfl | cons x xs => exact absurd (Nat.succ_pos xs.length) hlt
   have z := FIN.out 0 q; rw [Int.add_zero] at z; rw [z]; rfl
 ·rintro a' wr ⟨gb, Ao, co, kk, s, u9, u10, u11, u12, u13, u14, u15, u16, u17, u18, u19, u20, u21, u22, u23, u24, u25, u26, u27, u28, u29, u30, u31, u32, u33, u34, u35, u36, u37, u38, u39, u40, u41, u42, rfl, hkk, hlen, hcell, HC3, HB4, SUM⟩
  skip
  by_cases hlt : kk < ys.length
  ·obtain ⟨ad, e0, hx0, hx1, hx2⟩ := at_T49 HC3.out (((kk : Nat) : Int) : Int) (by omega) (by omega)
   cases e0
   simp only [Int.toNat_natCast] at hx0 hx1 hx2
   have hltz : ((kk : Nat) : Int) < (ys.length : Int) := by omega
   have hsd := scale_begins.sum_drop a1 ys kk s hlt
   generalize hgy : rd_T49 ys ((kk : Nat) : Int) = y at hx0 hx1 hx2 hsd
   have Y := Aside0.mk hgy
   clear hgy
   have SD := Aside0.mk hsd
   clear hsd
   by_cases hd : y.f0 < a1
   ·go_wp2
    try go_step3
    refine ⟨rfl, ⟨gb, some ad, co, kk + 1, wrap64 (s + y.f1), _, _, _, _, _, _, _, _, _, _, _, _, _, _, _, _, _, _, _, _, _, _, _, _, _, _, _, _, _, _, _, _, _, _, rfl, by omega, hlen, hcell, HC3, HB4, ⟨?_⟩⟩, ?_⟩
    ·have q := SD.out; rw [if_pos (by omega)] at q; exact q.symm.trans SUM.out
    ·simp [scale_begins.intOf]; omega
   ·go_wp2
    simp only [Exit.jump]
    go_ret
    refine ⟨?_, HB4.out⟩
    have q := SD.out; rw [if_neg (by omega)] at q; rw [FIN.out s (SUM.out.symm.trans q)]; rfl
  ·have hltz : ¬ ((kk : Nat) : Int) < (ys.length : Int) := by omega
   go_wp2
   simp only [Exit.jump]
   go_ret
   refine ⟨?_, HB4.out⟩
   have q := SUM.out; rw [List.drop_eq_nil_of_le (by omega)] at q; rw [FIN.out s q.symm]; rfl

end Go.Proofs.Ythoigncoojcanaa.PAll
