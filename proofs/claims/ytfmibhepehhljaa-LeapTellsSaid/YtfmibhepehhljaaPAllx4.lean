-- Written for this claim by wip/tools of this repo (after the kit's print; own contracts laid in).
import Derived.Test.YtfmibhepehhljaaPAllx0
import Derived.Test.YtfmibhepehhljaaPAllx3
namespace Go.Proofs.Ytfmibhepehhljaa.PAll
open Go.RowKit Go.Proofs.YtfmibhepehhljaaW.PrintWords Go.Proofs.YtfmibhepehhljaaW.PrintLast Go.Proofs.YtfmibhepehhljaaW.PrintMore
attribute [local go_sem] max2_int min2_int max_two min_two max_three min_three max_four min_four   -- for this text's walks alone
set_option linter.unusedVariables false
set_option linter.unusedSimpArgs false

/-! ### leap_Add: function 18 -/
def leap_Add.f (k : Nat) (l0_0 : List (S26)) (a0_1 : Bool) (a0_2 : Int) (a1_0 : Int) (a1_1 : Int) (a1_2 : Bool) : Option ((List (S26)) × Bool × Int × Int) := (api_Leap_31.f l0_0).bind fun t134 => ((some (([(⟨a1_0, a1_1, a1_2⟩ : S26)] : List (S26)) : List (S26))).bind fun y137 => (if t134.length + y137.length < 5864062014805 then ((some (t134 ++ y137 : List (S26))).bind fun y140 => ((leap_Check.f k y140 a0_1 a0_2).bind fun bt143 => (if bt143.2 = 0 then (some (y140, a0_1, a0_2, 0)) else (some (y140.take l0_0.length, a0_1, a0_2, bt143.2))))) else (none)))
theorem leap_Add.mono : ∀ a0 a1 a2 a3 a4 a5 k, LeO (leap_Add.f k a0 a1 a2 a3 a4 a5) (leap_Add.f (k + 1) a0 a1 a2 a3 a4 a5) := by
  intro a0 a1 a2 a3 a4 a5 k
  unfold leap_Add.f
  repeat' first
      | (with_reducible exact leap_Check.mono _ _ _ _)
      | (with_reducible exact LeO.refl _)
      | (with_reducible exact LeO.none _)
      | (with_reducible refine LeO.ite ?_ ?_)
      | (with_reducible refine LeO.bind ?_ (fun _ => ?_))
      | exact leap_Check.mono _ _ _ _
      | exact LeO.none _
      | refine LeO.ite ?_ ?_
      | refine LeO.bind ?_ (fun _ => ?_)
def leap_Add.T3 : Bool × List (List Nat × List Nat) := (true, [([], []), ([0], [0]), ([1], [1]), ([], []), ([3], [3]), ([2, 4, 2], [2, 4]), ([0, 1, 2, 3, 4, 5], []), ([6, 5, 5, 0, 1, 2, 3, 4, 5], [5, 6])])
def leap_Add.B3 : List Nat := [0, 1, 3, 0, 8, 31, 63, 127]
theorem leap_Add.tab3 : rtab .any (opsOf Try.f18 3) = leap_Add.T3 := by kernel_rfl
theorem leap_Add.bits3 : waitsOk leap_Add.T3.2 leap_Add.B3 = true := by kernel_rfl
/-! what leap.Add hands back: the beginning of a row of the call's own; it can be written -/
namespace Kd
section
open Go.Proofs.YtfmibhepehhljaaW.PrintWords.Kd
variable {α β : Type} {d : Kd α} {e base base' n m c g : Nat} {ok ok' okp : Nat → Prop} {W w1 : World} {A : Option Addr} {u v : Value} {xs ys : List α}
def VW {α : Type} (d : Kd α) (e : Nat) (W : World) (base : Nat) (ok : Nat → Prop) (v : Value) (xs : List α) : Prop :=
  ∃ A c c' ys, v = .slice A xs.length c ∧ xs.length ≤ c ∧ xs.length ≤ ys.length ∧ xs = ys.take xs.length ∧ d.R e W base ok (.slice A ys.length c') ys
theorem VW_map (h : VW d e W base ok v xs) (hR : ∀ u ys, u.ownBlock = v.ownBlock → d.R e W base ok u ys → d.R e w1 base' ok' u ys) : VW d e w1 base' ok' v xs := by
  obtain ⟨A, c, c', ys, rfl, h1, h2, h3, h4⟩ := h
  exact ⟨A, c, c', ys, rfl, h1, h2, h3, hR _ _ (by cases A <;> rfl) h4⟩
theorem VW_below (h : VW d e W base ok v xs) (hb : Below W.heap.size W w1) : VW d e w1 base ok v xs := VW_map h (fun _ _ _ hr => R_below hr hb)
theorem VW_alloc (h : VW d e W base ok v xs) (o : Obj) : VW d e (W.alloc o) base ok v xs := VW_map h (fun _ _ _ hr => R_alloc hr o)
theorem VW_drew (h : VW d e W base ok v xs) : VW d e W.drew base ok v xs := VW_map h (fun _ _ _ hr => R_drew hr)
theorem VW_drewN (h : VW d e W base ok v xs) (m : Nat) : VW d e (W.drewN m) base ok v xs := VW_map h (fun _ _ _ hr => R_drewN hr m)
theorem VW_far (h : VW d e W base ok v xs) {p : Addr} (hok : ∀ k, ok k → k ≠ p.block) (u : Value) : VW d e (W.setCell p u) base ok v xs := VW_map h (fun _ _ _ hr => R_far hr hok u)
theorem VW_mono (h : VW d e W base ok v xs) (hok : ∀ k, ok k → ok' k) : VW d e W base ok' v xs := VW_map h (fun _ _ _ hr => R_mono hr hok)
theorem VW_lower (h : VW d e W base ok v xs) (hb : base' ≤ base) : VW d e W base' ok v xs := VW_map h (fun _ _ _ hr => R_lower hr hb)
theorem VW_elderB (h : VW d e W base ok v xs) (a : Nat) (ha : W.heap.size ≤ a) : VW d e W base (fun k => ok k ∧ k ≠ a) v xs := VW_map h (fun _ _ _ hr => R_elderB hr a ha)
theorem VW_elder' (h : VW d e W base ok v xs) (hbase : ∀ k, u.ownBlock = some k → W.heap.size ≤ k) (hb : Below W.heap.size W w1) : VW d e w1 base (fun k => ok k ∧ some k ≠ u.ownBlock) v xs := VW_map h (fun _ _ _ hr => R_elder' hr hbase hb)
theorem VW_slice (h : VW d e W base ok v xs) : ∃ A c, v = .slice A xs.length c := by
  obtain ⟨A, c, _, _, hv, _⟩ := h
  exact ⟨A, c, hv⟩
theorem VW_row (h : VW d e W base ok v xs) : ∃ A c c' ys, v = .slice A xs.length c ∧ (Value.slice A ys.length c').ownBlock = v.ownBlock ∧ xs.length ≤ c ∧ xs.length ≤ ys.length ∧ xs = ys.take xs.length ∧ d.R e W base ok (.slice A ys.length c') ys := by
  obtain ⟨A, c, c', ys, rfl, h1, h2, h3, h4⟩ := h
  exact ⟨A, c, c', ys, rfl, by cases A <;> rfl, h1, h2, h3, h4⟩
theorem VW_reads' (h : VW d e W base ok (.slice A n c) xs) : n = xs.length ∧ n ≤ c ∧ d.C W A xs.length xs := by
  obtain ⟨A', c', c2, ys, he, h1, h2, h3, h4⟩ := h
  injection he with ea en ec
  subst ea; subst ec
  refine ⟨en, by omega, ?_⟩
  have hC := C_take (R_reads' h4).2.2 h2
  rw [← h3] at hC
  exact hC
theorem VW_typed (h : VW d e W base ok v xs) : ∀ k, v.ownBlock = some k → ∃ cells, W.heap[k]? = some (.cells cells e (0, 0)) := by
  obtain ⟨A, c, c', ys, _, ho, _, _, _, h4⟩ := VW_row h
  rw [← ho]; exact R_typed h4
theorem VW_away (h : VW d e W base ok v xs) {g : Nat} (hok : ∀ k, ok k → k ≠ g) : some g ≠ v.ownBlock := by
  obtain ⟨A, c, c', ys, _, ho, _, _, _, h4⟩ := VW_row h
  rw [← ho]; exact R_away h4 hok
theorem VW_ne (h : VW d e W base ok v xs) {g t : Nat} {cells : Array Value} (hb : W.heap[g]? = some (.cells cells t (0, 0))) (ht : e ≠ t) : some g ≠ v.ownBlock := by
  obtain ⟨A, c, c', ys, _, ho, _, _, _, h4⟩ := VW_row h
  rw [← ho]; exact R_ne h4 hb ht
theorem VW_form (h : VW d e W base ok v xs) (hp : 0 < xs.length) : ∃ g cap, v = .slice (some ⟨g, 0, none⟩) xs.length cap ∧ base ≤ g ∧ g < W.heap.size ∧ ∃ cells, W.heap[g]? = some (.cells cells e (0, 0)) := by
  obtain ⟨A, c, c', ys, rfl, h1, h2, h3, h4⟩ := h
  obtain ⟨g, cap, he, hb, hl, hc⟩ := R_form h4 (by omega)
  injection he with ea _ _
  subst ea
  exact ⟨g, c, rfl, hb, hl, hc⟩
theorem VW_elem (h : VW d e W base ok (.slice (some ⟨g, 0, none⟩) n c) xs) (z : α) (i : Int) (h0 : 0 ≤ i) (h1 : i < n) :
    ∃ c, c.length = d.sz ∧ d.M W base (fun k => ok k ∧ k ≠ g) (xs.getD i.toNat z) c ∧ (∀ j u, c[j]? = some u → W.cell? ⟨g, i.toNat * d.sz + j, none⟩ = some u) ∧ ∀ j, W.frozen? ⟨g, i.toNat * d.sz + j, none⟩ = false := by
  obtain ⟨A', c', c2, ys, he, q1, q2, q3, q4⟩ := h
  injection he with ea en ec
  subst ea
  have hlt : i.toNat < xs.length := by omega
  have hg : xs.getD i.toNat z = ys.getD i.toNat z := by
    rw [q3, List.getD_eq_getElem?_getD, List.getD_eq_getElem?_getD, List.getElem?_take, if_pos hlt]
  rw [hg]
  exact R_elem q4 z i h0 (by omega)
theorem VW_seg (h : VW d e W base ok (.slice (some ⟨g, 0, none⟩) n m) xs) (i : Int) (h0 : 0 ≤ i) (h1 : i < n) {c seg : List Value} {j : Nat} (hcl : c.length = d.sz) (hcc : ∀ j u, c[j]? = some u → W.cell? ⟨g, i.toNat * d.sz + j, none⟩ = some u)
    (hj : j + seg.length ≤ d.sz) {x' : α} (hM : d.M W base okp x' (c.take j ++ seg ++ c.drop (j + seg.length))) (hokp : ∀ k, okp k → ok k ∧ k ≠ g) :
    VW d e (W.setCells g (i.toNat * d.sz + j) seg) base ok (.slice (some ⟨g, 0, none⟩) n m) (xs.set i.toNat x') ∧ W.grownBy (W.setCells g (i.toNat * d.sz + j) seg) (some g) := by
  obtain ⟨A', c', c2, ys, he, q1, q2, q3, q4⟩ := h
  injection he with ea en ec
  subst ea; subst en; subst ec
  obtain ⟨r1, r2⟩ := R_seg q4 i h0 (by omega) hcl hcc hj hM hokp
  refine ⟨⟨some ⟨g, 0, none⟩, m, c2, ys.set i.toNat x', by simp, by simpa using q1, by simpa using q2, ?_, by simpa using r1⟩, r2⟩
  rw [List.length_set, List.take_set, ← q3]
theorem VW_of (h : d.R e W base ok v xs) : VW d e W base ok v xs := by
  obtain ⟨A, c, rfl⟩ := R_slice h
  exact ⟨A, c, c, xs, rfl, (R_reads' h).2.1, Nat.le_refl _, by simp, h⟩
theorem VW_cut (h : d.R e W base ok (.slice A ys.length c) ys) (hn : n ≤ ys.length) : VW d e W base ok (.slice A n n) (ys.take n) := by
  have hl : (ys.take n).length = n := by rw [List.length_take]; omega
  exact ⟨A, n, c, ys, by rw [hl], by rw [hl]; exact Nat.le_refl _, by rw [hl]; exact hn, by rw [hl], h⟩
theorem VW_V (h : VW d e W base ok v xs) : V d e W base ok v xs := by
  obtain ⟨A, c, c', ys, rfl, h1, h2, h3, h4⟩ := h
  have hf := F_take (V_at (R_V (base' := base) h4)).2.2 h2
  rw [← h3] at hf
  exact ⟨A, c, rfl, h1, hf⟩
end
end Kd
/-- another row of flat elements stays -/
theorem k26_re {W : World} {base : Nat} {ok ok' : Nat → Prop} {u : Value} {xs : List S26} (h : k26.R 26 W base ok u xs) (hk : ∀ k, u.ownBlock = some k → ok' k) : k26.R 26 W base ok' u xs :=
  ⟨hk, OwnRow.imp_ h.2 (fun p c hp => by obtain rfl := k26_openM hp; exact k26_mkM _ _ _ p)⟩
theorem k26_other {W w1 : World} {base base2 : Nat} {ok ok2 : Nat → Prop} {u v : Value} {xs ys : List S26} (h : k26.R 26 W base ok u xs) (hv : Kd.VW k26 26 W base2 ok2 v ys) (hne : ∀ k, ok2 k → some k ≠ u.ownBlock) (hg : W.grownBy w1 v.ownBlock) : k26.R 26 w1 base ok u xs := by
  refine k26_re (Kd.R_grown (k26_re h (ok' := fun k => u.ownBlock = some k) (fun k hk => hk)) hg (fun k hk he => ?_)) h.1
  obtain ⟨A, c, c', zs, _, ho, _, _, _, h4⟩ := Kd.VW_row hv
  exact hne k (h4.1 k (by rw [ho, he])) hk.symm
set_option maxHeartbeats 8000000 in
set_option maxRecDepth 100000 in
theorem leap_Add.callsW (k : Nat) (A0_0 : Option Addr) (c0_0 : Nat) (l0_0 : List (S26)) (a0_1 : Bool) (a0_2 : Int) (a1_0 : Int) (a1_1 : Int) (a1_2 : Bool) (r1 : List (S26)) (r2 : Bool) (r3 : Int) (r4 : Int) (w : World) (hr0_0 : Kd.C k26 w A0_0 l0_0.length l0_0) (hc0_0 : l0_0.length ≤ c0_0) (h : leap_Add.f k l0_0 a0_1 a0_2 a1_0 a1_1 a1_2 = some (r1, r2, r3, r4)) :
    Calls Try.prog 18 #[.agg #[.slice A0_0 l0_0.length c0_0, .bool a0_1, .int .i64 a0_2], .agg #[.int .i64 a1_0, .int .i64 a1_1, .bool a1_2]] w fun e w' => ∃ v0_ : Value, e = .returned (.tuple #[.agg #[v0_, .bool r2, .int .i64 r3], .int .i64 r4]) ∧ Kd.VW k26 26 w' w.heap.size (fun k_ => (w.heap.size ≤ k_)) v0_ r1 ∧ Below w.heap.size w w' := by
  have hu24 := Try.underlying24
  have hu26 := Try.underlying26
  have HR0_0 := Aside0.mk hr0_0
  have HC0_0 := Aside0.mk hc0_0
  clear hr0_0 hc0_0
  have HB := Aside0.mk (Below.refl w.heap.size w)
  have H : ((api_Leap_31.f l0_0).bind fun t134 => ((some (([(⟨a1_0, a1_1, a1_2⟩ : S26)] : List (S26)) : List (S26))).bind fun y137 => (if t134.length + y137.length < 5864062014805 then ((some (t134 ++ y137 : List (S26))).bind fun y140 => ((leap_Check.f k y140 a0_1 a0_2).bind fun bt143 => (if bt143.2 = 0 then (some (y140, a0_1, a0_2, 0)) else (some (y140.take l0_0.length, a0_1, a0_2, bt143.2))))) else (none)))) = some (r1, r2, r3, r4) := h
  clear h
  replace H := Option.bind_eq_some_iff.mp H
  obtain ⟨t134, A30, H⟩ := H
  replace H : ((some (([(⟨a1_0, a1_1, a1_2⟩ : S26)] : List (S26)) : List (S26))).bind fun y137 => (if t134.length + y137.length < 5864062014805 then ((some (t134 ++ y137 : List (S26))).bind fun y140 => ((leap_Check.f k y140 a0_1 a0_2).bind fun bt143 => (if bt143.2 = 0 then (some (y140, a0_1, a0_2, 0)) else (some (y140.take l0_0.length, a0_1, a0_2, bt143.2))))) else (none))) = some (r1, r2, r3, r4) := H
  have A3 := Aside0.mk A30
  clear A30
  obtain ⟨y137, hy137⟩ : ∃ y_ : List (S26), y_ = (([(⟨a1_0, a1_1, a1_2⟩ : S26)] : List (S26))) := ⟨_, rfl⟩
  replace H : (if t134.length + y137.length < 5864062014805 then ((some (t134 ++ y137 : List (S26))).bind fun y140 => ((leap_Check.f k y140 a0_1 a0_2).bind fun bt143 => (if bt143.2 = 0 then (some (y140, a0_1, a0_2, 0)) else (some (y140.take l0_0.length, a0_1, a0_2, bt143.2))))) else (none)) = some (r1, r2, r3, r4) := by first | (rw [hy137]; with_reducible exact H) | (have H2_ := (Option.bind_some _ _).symm.trans H; rw [hy137]; with_reducible exact H2_) | (have H2_ := (Option.bind_some _ _).symm.trans H; with_reducible exact H2_) | with_reducible exact H | (rw [hy137]; exact H) | exact H
  have Ny137 := Aside0.mk hy137
  clear hy137
  by_cases c4 : t134.length + y137.length < 5864062014805
  · rw [if_pos c4] at H
    have LMc4 := Aside0.mk c4
    clear c4
    obtain ⟨y140, hy140⟩ : ∃ y_ : List (S26), y_ = (t134 ++ y137) := ⟨_, rfl⟩
    replace H : ((leap_Check.f k y140 a0_1 a0_2).bind fun bt143 => (if bt143.2 = 0 then (some (y140, a0_1, a0_2, 0)) else (some (y140.take l0_0.length, a0_1, a0_2, bt143.2)))) = some (r1, r2, r3, r4) := by first | (rw [hy140]; with_reducible exact H) | (have H2_ := (Option.bind_some _ _).symm.trans H; rw [hy140]; with_reducible exact H2_) | (have H2_ := (Option.bind_some _ _).symm.trans H; with_reducible exact H2_) | with_reducible exact H | (rw [hy140]; exact H) | exact H
    have Ny140 := Aside0.mk hy140
    clear hy140
    replace H := Option.bind_eq_some_iff.mp H
    obtain ⟨⟨t143, t144⟩, A50, H⟩ := H
    replace H : (if t144 = 0 then (some (y140, a0_1, a0_2, 0)) else (some (y140.take l0_0.length, a0_1, a0_2, t144))) = some (r1, r2, r3, r4) := H
    have A5 := Aside0.mk A50
    clear A50
    by_cases c6 : t144 = 0
    · rw [if_pos c6] at H
      have c6b0 : (t144 == 0) = true := beq_iff_eq.mpr c6
      have c6b1 : (t144 != 0) = false := bne_eq_false_iff_eq.mpr c6
      clear c6
      simp only [Option.some.injEq, Prod.mk.injEq] at H
      obtain ⟨rfl, rfl, rfl, rfl⟩ := H
      go_enter Try.func18, Try.ntmps18
      try go_wp2_with (first | ((with_reducible refine gate_dst (N := 2) rfl ?_); refine box_event ?hg (N := 2) ?hd (cs := #[.slice A0_0 l0_0.length c0_0, .bool a0_1, .int .i64 a0_2]) (t := 24) ?hr ?_; (case hd => rfl); (case hg => rfl); (case hr => first | (go_simp; done) | (go_simp; rfl)); intro gb130 hg w7 hbox hb; have n0_ := Aside0.mk (below_step (by repeat (first | (with_reducible first | exact HB.out | apply below_alloc | apply pw_below_drewN | apply below_drew1) | exact HB.out)) hb); have n1_ := Aside0.mk (hbox); have n2_ := Aside0.mk ((by rw [hg]; exact (below_size (by repeat (first | (with_reducible first | exact HB.out | apply below_alloc | apply pw_below_drewN | apply below_drew1) | exact HB.out))) : w.heap.size ≤ gb130)); have n3_ := Aside0.mk ((by rw [hg]; exact (below_size (by repeat (first | (with_reducible first | exact HB.out | apply below_alloc | apply pw_below_drewN | apply below_drew1) | exact HB.out))) : w.heap.size ≤ gb130)); clear HB; have HB := n0_; have BK130 := n1_; have GW130 := n2_; have GE130 := n3_; clear n0_ n1_ n2_ n3_; clear hb hbox hg) | ((with_reducible refine gate_dst (N := 3) rfl ?_); refine box_event ?hg (N := 3) ?hd (cs := #[.int .i64 a1_0, .int .i64 a1_1, .bool a1_2]) (t := 26) ?hr ?_; (case hd => rfl); (case hg => rfl); (case hr => first | (go_simp; done) | (go_simp; rfl)); intro gb131 hg w8 hbox hb; have n0_ := Aside0.mk (blk_below (g := gb130) (o := .cells #[.slice A0_0 l0_0.length c0_0, .bool a0_1, .int .i64 a0_2] 24 (0, 0)) (by (with_reducible repeat (first | refine blk_drewN ?_ _ | refine blk_drew ?_ | refine blk_alloc ?_ _)); exact BK130.out) hb); have n1_ := Aside0.mk (below_step (by repeat (first | (with_reducible first | exact HB.out | apply below_alloc | apply pw_below_drewN | apply below_drew1 | refine below_set ?_ GE130.out) | exact HB.out)) hb); have n2_ := Aside0.mk (hbox); have n3_ := Aside0.mk ((by rw [hg]; exact (below_size (by repeat (first | (with_reducible first | exact HB.out | apply below_alloc | apply pw_below_drewN | apply below_drew1 | refine below_set ?_ GE130.out) | exact HB.out))) : w.heap.size ≤ gb131)); have n4_ := Aside0.mk ((by rw [hg]; exact (below_size (by repeat (first | (with_reducible first | exact HB.out | apply below_alloc | apply pw_below_drewN | apply below_drew1 | refine below_set ?_ GE130.out) | exact HB.out))) : w.heap.size ≤ gb131)); have n5_ := Aside0.mk ((by rw [hg]; exact Nat.ne_of_lt (blk_lt (g := gb130) (o := .cells #[.slice A0_0 l0_0.length c0_0, .bool a0_1, .int .i64 a0_2] 24 (0, 0)) (by (with_reducible repeat (first | refine blk_drewN ?_ _ | refine blk_drew ?_ | refine blk_alloc ?_ _)); exact BK130.out)) : gb130 ≠ gb131)); have n6_ := Aside0.mk ((by rw [hg]; exact Nat.ne_of_gt (blk_lt (g := gb130) (o := .cells #[.slice A0_0 l0_0.length c0_0, .bool a0_1, .int .i64 a0_2] 24 (0, 0)) (by (with_reducible repeat (first | refine blk_drewN ?_ _ | refine blk_drew ?_ | refine blk_alloc ?_ _)); exact BK130.out)) : gb131 ≠ gb130)); clear BK130; clear HB; have BK130 := n0_; have HB := n1_; have BK131 := n2_; have GW131 := n3_; have GE131 := n4_; have NB130_131 := n5_; have NB131_130 := n6_; clear n0_ n1_ n2_ n3_ n4_ n5_ n6_; clear hb hbox hg) | ((with_reducible refine gate_dst (N := 4) rfl ?_); refine box_event ?hg (N := 4) ?hd (cs := #[.slice none 0 0, .bool false, .int .i64 0]) (t := 24) ?hr ?_; (case hd => rfl); (case hg => rfl); (case hr => first | (go_simp; done) | (go_simp; rfl)); intro gb132 hg w9 hbox hb; have n0_ := Aside0.mk (blk_below (g := gb130) (o := .cells #[.slice A0_0 l0_0.length c0_0, .bool a0_1, .int .i64 a0_2] 24 (0, 0)) (by (with_reducible repeat (first | refine blk_drewN ?_ _ | refine blk_drew ?_ | refine blk_alloc ?_ _)); exact BK130.out) hb); have n1_ := Aside0.mk (blk_below (g := gb131) (o := .cells #[.int .i64 a1_0, .int .i64 a1_1, .bool a1_2] 26 (0, 0)) (by (with_reducible repeat (first | refine blk_drewN ?_ _ | refine blk_drew ?_ | refine blk_alloc ?_ _)); exact BK131.out) hb); have n2_ := Aside0.mk (below_step (by repeat (first | (with_reducible first | exact HB.out | apply below_alloc | apply pw_below_drewN | apply below_drew1 | refine below_set ?_ GE130.out | refine below_set ?_ GE131.out) | exact HB.out)) hb); have n3_ := Aside0.mk (hbox); have n4_ := Aside0.mk ((by rw [hg]; exact (below_size (by repeat (first | (with_reducible first | exact HB.out | apply below_alloc | apply pw_below_drewN | apply below_drew1 | refine below_set ?_ GE130.out | refine below_set ?_ GE131.out) | exact HB.out))) : w.heap.size ≤ gb132)); have n5_ := Aside0.mk ((by rw [hg]; exact (below_size (by repeat (first | (with_reducible first | exact HB.out | apply below_alloc | apply pw_below_drewN | apply below_drew1 | refine below_set ?_ GE130.out | refine below_set ?_ GE131.out) | exact HB.out))) : w.heap.size ≤ gb132)); have n6_ := Aside0.mk ((by rw [hg]; exact Nat.ne_of_lt (blk_lt (g := gb130) (o := .cells #[.slice A0_0 l0_0.length c0_0, .bool a0_1, .int .i64 a0_2] 24 (0, 0)) (by (with_reducible repeat (first | refine blk_drewN ?_ _ | refine blk_drew ?_ | refine blk_alloc ?_ _)); exact BK130.out)) : gb130 ≠ gb132)); have n7_ := Aside0.mk ((by rw [hg]; exact Nat.ne_of_gt (blk_lt (g := gb130) (o := .cells #[.slice A0_0 l0_0.length c0_0, .bool a0_1, .int .i64 a0_2] 24 (0, 0)) (by (with_reducible repeat (first | refine blk_drewN ?_ _ | refine blk_drew ?_ | refine blk_alloc ?_ _)); exact BK130.out)) : gb132 ≠ gb130)); have n8_ := Aside0.mk ((by rw [hg]; exact Nat.ne_of_lt (blk_lt (g := gb131) (o := .cells #[.int .i64 a1_0, .int .i64 a1_1, .bool a1_2] 26 (0, 0)) (by (with_reducible repeat (first | refine blk_drewN ?_ _ | refine blk_drew ?_ | refine blk_alloc ?_ _)); exact BK131.out)) : gb131 ≠ gb132)); have n9_ := Aside0.mk ((by rw [hg]; exact Nat.ne_of_gt (blk_lt (g := gb131) (o := .cells #[.int .i64 a1_0, .int .i64 a1_1, .bool a1_2] 26 (0, 0)) (by (with_reducible repeat (first | refine blk_drewN ?_ _ | refine blk_drew ?_ | refine blk_alloc ?_ _)); exact BK131.out)) : gb132 ≠ gb131)); clear BK130; clear BK131; clear HB; have BK130 := n0_; have BK131 := n1_; have HB := n2_; have BK132 := n3_; have GW132 := n4_; have GE132 := n5_; have NB130_132 := n6_; have NB132_130 := n7_; have NB131_132 := n8_; have NB132_131 := n9_; clear n0_ n1_ n2_ n3_ n4_ n5_ n6_ n7_ n8_ n9_; clear hb hbox hg; have hnb10 := NB130_131.out; have hnc10 := NB131_130.out; have hnb11 := NB130_132.out; have hnc11 := NB132_130.out; have hcz12_0 : w9.cell? ⟨gb130, 0, none⟩ = some (.slice A0_0 l0_0.length c0_0) := (blk_cell BK130.out 0).trans rfl; have hcz12_1 : w9.cell? ⟨gb130, 1, none⟩ = some (.bool a0_1) := (blk_cell BK130.out 1).trans rfl; have hcz12_2 : w9.cell? ⟨gb130, 2, none⟩ = some (.int .i64 a0_2) := (blk_cell BK130.out 2).trans rfl; have hfz12_0 := blk_frozen BK130.out 0; have hfz12_1 := blk_frozen BK130.out 1; have hfz12_2 := blk_frozen BK130.out 2) | ((with_reducible refine gate_dst (N := 7) rfl ?_); refine box_event ?hg (N := 7) ?hd (cs := #[.slice none 0 0, .bool false, .int .i64 0]) (t := 24) ?hr ?_; (case hd => rfl); (case hg => rfl); (case hr => first | (go_simp; done) | (go_simp; rfl)); intro gb133 hg w13 hbox hb; have n0_ := Aside0.mk (blk_below (g := gb130) (o := .cells #[.slice A0_0 l0_0.length c0_0, .bool a0_1, .int .i64 a0_2] 24 (0, 0)) (by (with_reducible repeat (first | refine blk_drewN ?_ _ | refine blk_drew ?_ | refine blk_alloc ?_ _)); exact BK130.out) hb); have n1_ := Aside0.mk (blk_below (g := gb131) (o := .cells #[.int .i64 a1_0, .int .i64 a1_1, .bool a1_2] 26 (0, 0)) (by (with_reducible repeat (first | refine blk_drewN ?_ _ | refine blk_drew ?_ | refine blk_alloc ?_ _)); exact BK131.out) hb); have n2_ := Aside0.mk (blk_below (g := gb132) (o := .cells #[.slice none 0 0, .bool false, .int .i64 0] 24 (0, 0)) (by (with_reducible repeat (first | refine blk_drewN ?_ _ | refine blk_drew ?_ | refine blk_alloc ?_ _)); exact BK132.out) hb); have n3_ := Aside0.mk (below_step (by repeat (first | (with_reducible first | exact HB.out | apply below_alloc | apply pw_below_drewN | apply below_drew1 | refine below_set ?_ GE130.out | refine below_set ?_ GE131.out | refine below_set ?_ GE132.out) | exact HB.out)) hb); have n4_ := Aside0.mk (hbox); have n5_ := Aside0.mk ((by rw [hg]; exact (below_size (by repeat (first | (with_reducible first | exact HB.out | apply below_alloc | apply pw_below_drewN | apply below_drew1 | refine below_set ?_ GE130.out | refine below_set ?_ GE131.out | refine below_set ?_ GE132.out) | exact HB.out))) : w.heap.size ≤ gb133)); have n6_ := Aside0.mk ((by rw [hg]; exact (below_size (by repeat (first | (with_reducible first | exact HB.out | apply below_alloc | apply pw_below_drewN | apply below_drew1 | refine below_set ?_ GE130.out | refine below_set ?_ GE131.out | refine below_set ?_ GE132.out) | exact HB.out))) : w.heap.size ≤ gb133)); have n7_ := Aside0.mk ((by rw [hg]; exact Nat.ne_of_lt (blk_lt (g := gb130) (o := .cells #[.slice A0_0 l0_0.length c0_0, .bool a0_1, .int .i64 a0_2] 24 (0, 0)) (by (with_reducible repeat (first | refine blk_drewN ?_ _ | refine blk_drew ?_ | refine blk_alloc ?_ _)); exact BK130.out)) : gb130 ≠ gb133)); have n8_ := Aside0.mk ((by rw [hg]; exact Nat.ne_of_gt (blk_lt (g := gb130) (o := .cells #[.slice A0_0 l0_0.length c0_0, .bool a0_1, .int .i64 a0_2] 24 (0, 0)) (by (with_reducible repeat (first | refine blk_drewN ?_ _ | refine blk_drew ?_ | refine blk_alloc ?_ _)); exact BK130.out)) : gb133 ≠ gb130)); have n9_ := Aside0.mk ((by rw [hg]; exact Nat.ne_of_lt (blk_lt (g := gb131) (o := .cells #[.int .i64 a1_0, .int .i64 a1_1, .bool a1_2] 26 (0, 0)) (by (with_reducible repeat (first | refine blk_drewN ?_ _ | refine blk_drew ?_ | refine blk_alloc ?_ _)); exact BK131.out)) : gb131 ≠ gb133)); have n10_ := Aside0.mk ((by rw [hg]; exact Nat.ne_of_gt (blk_lt (g := gb131) (o := .cells #[.int .i64 a1_0, .int .i64 a1_1, .bool a1_2] 26 (0, 0)) (by (with_reducible repeat (first | refine blk_drewN ?_ _ | refine blk_drew ?_ | refine blk_alloc ?_ _)); exact BK131.out)) : gb133 ≠ gb131)); have n11_ := Aside0.mk ((by rw [hg]; exact Nat.ne_of_lt (blk_lt (g := gb132) (o := .cells #[.slice none 0 0, .bool false, .int .i64 0] 24 (0, 0)) (by (with_reducible repeat (first | refine blk_drewN ?_ _ | refine blk_drew ?_ | refine blk_alloc ?_ _)); exact BK132.out)) : gb132 ≠ gb133)); have n12_ := Aside0.mk ((by rw [hg]; exact Nat.ne_of_gt (blk_lt (g := gb132) (o := .cells #[.slice none 0 0, .bool false, .int .i64 0] 24 (0, 0)) (by (with_reducible repeat (first | refine blk_drewN ?_ _ | refine blk_drew ?_ | refine blk_alloc ?_ _)); exact BK132.out)) : gb133 ≠ gb132)); clear BK130; clear BK131; clear BK132; clear HB; have BK130 := n0_; have BK131 := n1_; have BK132 := n2_; have HB := n3_; have BK133 := n4_; have GW133 := n5_; have GE133 := n6_; have NB130_133 := n7_; have NB133_130 := n8_; have NB131_133 := n9_; have NB133_131 := n10_; have NB132_133 := n11_; have NB133_132 := n12_; clear n0_ n1_ n2_ n3_ n4_ n5_ n6_ n7_ n8_ n9_ n10_ n11_ n12_; clear hb hbox hg; have hnb14 := NB133_130.out; have hnc14 := NB130_133.out; have hnb15 := NB133_131.out; have hnc15 := NB131_133.out; have hnb16 := NB133_132.out; have hnc16 := NB132_133.out; have hcz17_0 : w13.cell? ⟨gb133, 0, none⟩ = some (.slice none 0 0) := (blk_cell BK133.out 0).trans rfl; have hcz17_1 : w13.cell? ⟨gb133, 1, none⟩ = some (.bool false) := (blk_cell BK133.out 1).trans rfl; have hcz17_2 : w13.cell? ⟨gb133, 2, none⟩ = some (.int .i64 0) := (blk_cell BK133.out 2).trans rfl; have hfz17_0 := blk_frozen BK133.out 0; have hfz17_1 := blk_frozen BK133.out 1; have hfz17_2 := blk_frozen BK133.out 2))
      have n0_ : Aside0 ((((w13.setCell ⟨gb133, 0, none⟩ (.slice A0_0 l0_0.length c0_0)).setCell ⟨gb133, 1, none⟩ (.bool a0_1)).setCell ⟨gb133, 2, none⟩ (.int .i64 a0_2)).heap[gb130]? = some (.cells #[.slice A0_0 l0_0.length c0_0, .bool a0_1, .int .i64 a0_2] 24 (0, 0))) := ⟨by (with_reducible repeat (first | refine blk_drewN ?_ _ | refine blk_drew ?_ | refine blk_alloc ?_ _)); refine blk_far ?_ NB130_133.out _; (with_reducible repeat (first | refine blk_drewN ?_ _ | refine blk_drew ?_ | refine blk_alloc ?_ _)); refine blk_far ?_ NB130_133.out _; (with_reducible repeat (first | refine blk_drewN ?_ _ | refine blk_drew ?_ | refine blk_alloc ?_ _)); refine blk_far ?_ NB130_133.out _; (with_reducible repeat (first | refine blk_drewN ?_ _ | refine blk_drew ?_ | refine blk_alloc ?_ _)); exact BK130.out⟩
      have n1_ : Aside0 ((((w13.setCell ⟨gb133, 0, none⟩ (.slice A0_0 l0_0.length c0_0)).setCell ⟨gb133, 1, none⟩ (.bool a0_1)).setCell ⟨gb133, 2, none⟩ (.int .i64 a0_2)).heap[gb131]? = some (.cells #[.int .i64 a1_0, .int .i64 a1_1, .bool a1_2] 26 (0, 0))) := ⟨by (with_reducible repeat (first | refine blk_drewN ?_ _ | refine blk_drew ?_ | refine blk_alloc ?_ _)); refine blk_far ?_ NB131_133.out _; (with_reducible repeat (first | refine blk_drewN ?_ _ | refine blk_drew ?_ | refine blk_alloc ?_ _)); refine blk_far ?_ NB131_133.out _; (with_reducible repeat (first | refine blk_drewN ?_ _ | refine blk_drew ?_ | refine blk_alloc ?_ _)); refine blk_far ?_ NB131_133.out _; (with_reducible repeat (first | refine blk_drewN ?_ _ | refine blk_drew ?_ | refine blk_alloc ?_ _)); exact BK131.out⟩
      have n2_ : Aside0 ((((w13.setCell ⟨gb133, 0, none⟩ (.slice A0_0 l0_0.length c0_0)).setCell ⟨gb133, 1, none⟩ (.bool a0_1)).setCell ⟨gb133, 2, none⟩ (.int .i64 a0_2)).heap[gb132]? = some (.cells #[.slice none 0 0, .bool false, .int .i64 0] 24 (0, 0))) := ⟨by (with_reducible repeat (first | refine blk_drewN ?_ _ | refine blk_drew ?_ | refine blk_alloc ?_ _)); refine blk_far ?_ NB132_133.out _; (with_reducible repeat (first | refine blk_drewN ?_ _ | refine blk_drew ?_ | refine blk_alloc ?_ _)); refine blk_far ?_ NB132_133.out _; (with_reducible repeat (first | refine blk_drewN ?_ _ | refine blk_drew ?_ | refine blk_alloc ?_ _)); refine blk_far ?_ NB132_133.out _; (with_reducible repeat (first | refine blk_drewN ?_ _ | refine blk_drew ?_ | refine blk_alloc ?_ _)); exact BK132.out⟩
      have n3_ : Aside0 ((((w13.setCell ⟨gb133, 0, none⟩ (.slice A0_0 l0_0.length c0_0)).setCell ⟨gb133, 1, none⟩ (.bool a0_1)).setCell ⟨gb133, 2, none⟩ (.int .i64 a0_2)).heap[gb133]? = some (.cells #[.slice A0_0 l0_0.length c0_0, .bool a0_1, .int .i64 a0_2] 24 (0, 0))) := ⟨by (with_reducible repeat (first | refine blk_drewN ?_ _ | refine blk_drew ?_ | refine blk_alloc ?_ _)); refine blk_put (cs := #[.slice A0_0 l0_0.length c0_0, .bool a0_1, .int .i64 0]) ?_ 2 _ rfl; (with_reducible repeat (first | refine blk_drewN ?_ _ | refine blk_drew ?_ | refine blk_alloc ?_ _)); refine blk_put (cs := #[.slice A0_0 l0_0.length c0_0, .bool false, .int .i64 0]) ?_ 1 _ rfl; (with_reducible repeat (first | refine blk_drewN ?_ _ | refine blk_drew ?_ | refine blk_alloc ?_ _)); refine blk_put (cs := #[.slice none 0 0, .bool false, .int .i64 0]) ?_ 0 _ rfl; (with_reducible repeat (first | refine blk_drewN ?_ _ | refine blk_drew ?_ | refine blk_alloc ?_ _)); exact BK133.out⟩
      have n4_ : Aside0 (Below w.heap.size w (((w13.setCell ⟨gb133, 0, none⟩ (.slice A0_0 l0_0.length c0_0)).setCell ⟨gb133, 1, none⟩ (.bool a0_1)).setCell ⟨gb133, 2, none⟩ (.int .i64 a0_2))) := ⟨by repeat (first | (with_reducible first | exact HB.out | apply below_alloc | apply pw_below_drewN | apply below_drew1 | refine below_set ?_ GE130.out | refine below_set ?_ GE131.out | refine below_set ?_ GE132.out | refine below_set ?_ GE133.out) | exact HB.out)⟩
      (try clear BK130)
      (try clear BK131)
      (try clear BK132)
      (try clear BK133)
      (try clear HB)
      generalize (((w13.setCell ⟨gb133, 0, none⟩ (.slice A0_0 l0_0.length c0_0)).setCell ⟨gb133, 1, none⟩ (.bool a0_1)).setCell ⟨gb133, 2, none⟩ (.int .i64 a0_2)) = w18 at n0_ n1_ n2_ n3_ n4_ ⊢
      have BK130 := n0_
      have BK131 := n1_
      have BK132 := n2_
      have BK133 := n3_
      have HB := n4_
      clear n0_ n1_ n2_ n3_ n4_
      have n0_ := Aside0.mk (blk_drew BK130.out)
      have n1_ := Aside0.mk (blk_drew BK131.out)
      have n2_ := Aside0.mk (blk_drew BK132.out)
      have n3_ := Aside0.mk (blk_drew BK133.out)
      have n4_ := Aside0.mk (below_drew1 HB.out)
      clear BK130
      clear BK131
      clear BK132
      clear BK133
      clear HB
      have BK130 := n0_
      have BK131 := n1_
      have BK132 := n2_
      have BK133 := n3_
      have HB := n4_
      clear n0_ n1_ n2_ n3_ n4_
      refine start_ (n := 8) (S := fun w' => w'.cell? ⟨gb130, 0, none⟩ = some (.slice A0_0 l0_0.length c0_0) ∧ w'.cell? ⟨gb130, 1, none⟩ = some (.bool a0_1) ∧ w'.cell? ⟨gb130, 2, none⟩ = some (.int .i64 a0_2) ∧ w'.cell? ⟨gb131, 0, none⟩ = some (.int .i64 a1_0) ∧ w'.cell? ⟨gb131, 1, none⟩ = some (.int .i64 a1_1) ∧ w'.cell? ⟨gb131, 2, none⟩ = some (.bool a1_2)) (ds := []) #[false, false, false, false, false, false, false, false] (by kernel_rfl) rfl rfl ⟨(blk_cell BK130.out 0).trans rfl, (blk_cell BK130.out 1).trans rfl, (blk_cell BK130.out 2).trans rfl, (blk_cell BK131.out 0).trans rfl, (blk_cell BK131.out 1).trans rfl, (blk_cell BK131.out 2).trans rfl⟩ (fun hHeld => ?_); refine with_tabW leap_Add.tab3 leap_Add.bits3 (fun HT_ HW_ => ?_)
      generalize w18.drew = w19 at BK130 BK131 BK132 BK133 HB hHeld ⊢
      refine pure_ (i := 0) (N := some 14) (v := ?_) (a' := ?_) #[true, false, false, false, false, false, false, false] rfl rfl (any_of HT_.out (by kernel_rfl)) (fun _ _ _ h => h) (Or.inl ⟨by rfl, ?_⟩) ?_ ?_
      rotate_left
      · intro w'
        go_simp
        with_reducible rfl
      rotate_left
      · simp only [Act.put, List.setIfInBounds_toArray, List.set_cons_zero, List.set_cons_succ, i64_w, i32_w]
        rfl
      refine take_ (i := 1) (N := some 15) (v := ?_) (a' := ?_) #[true, true, false, false, false, false, false, false] rfl rfl (take_ofW HT_.out HW_.out (by kernel_rfl)) (fun _ _ _ h => h) (Or.inl ⟨by rfl, ?_⟩) hHeld ?_ ?_
      rotate_left
      · rintro w' ⟨s0, s1, s2, s3, s4, s5⟩
        go_simp
        with_reducible rfl
      rotate_left
      · simp only [Act.put, List.setIfInBounds_toArray, List.set_cons_zero, List.set_cons_succ, i64_w, i32_w]
        rfl
      refine take_ (i := 3) (N := some 17) (v := ?_) (a' := ?_) #[true, true, false, true, false, false, false, false] rfl rfl (take_ofW HT_.out HW_.out (by kernel_rfl)) (fun _ _ _ h => h) (Or.inl ⟨by rfl, ?_⟩) hHeld ?_ ?_
      rotate_left
      · rintro w' ⟨s0, s1, s2, s3, s4, s5⟩
        go_simp
        with_reducible rfl
      rotate_left
      · simp only [Act.put, List.setIfInBounds_toArray, List.set_cons_zero, List.set_cons_succ, i64_w, i32_w]
        rfl
      refine join_ (σ := Value × Value) 3 #[true, true, true, true, true, false, false, false] (fun s_ => [(16, s_.1), (18, s_.2)]) (fun s_ w' => (w'.cell? ⟨gb130, 0, none⟩ = some (.slice A0_0 l0_0.length c0_0) ∧ w'.cell? ⟨gb130, 1, none⟩ = some (.bool a0_1) ∧ w'.cell? ⟨gb130, 2, none⟩ = some (.int .i64 a0_2) ∧ w'.cell? ⟨gb131, 0, none⟩ = some (.int .i64 a1_0) ∧ w'.cell? ⟨gb131, 1, none⟩ = some (.int .i64 a1_1) ∧ w'.cell? ⟨gb131, 2, none⟩ = some (.bool a1_2)) ∧ (Kd.R k26 26 w' w.heap.size (fun k_ => (w.heap.size ≤ k_) ∧ some k_ ≠ (s_.2 : Value).ownBlock ∧ k_ ≠ gb131) s_.1 t134) ∧ (Kd.R k26 26 w' w.heap.size (fun k_ => (w.heap.size ≤ k_) ∧ some k_ ≠ (s_.1 : Value).ownBlock ∧ k_ ≠ gb131) s_.2 y137) ∧ (w'.heap[gb130]? = some (.cells #[.slice A0_0 l0_0.length c0_0, .bool a0_1, .int .i64 a0_2] 24 (0, 0))) ∧ (w'.heap[gb131]? = some (.cells #[.int .i64 a1_0, .int .i64 a1_1, .bool a1_2] 26 (0, 0))) ∧ (w'.heap[gb132]? = some (.cells #[.slice none 0 0, .bool false, .int .i64 0] 24 (0, 0))) ∧ (w'.heap[gb133]? = some (.cells #[.slice A0_0 l0_0.length c0_0, .bool a0_1, .int .i64 a0_2] 24 (0, 0))) ∧ (Below w.heap.size w w')) ?_ ?_
      rotate_left
      · intro hCont
        refine two_ (i := 2) (j := 4) (Ni := some 16) (Nj := some 18) #[true, true, true, true, false, false, false, false] #[true, true, false, true, true, false, false, false] rfl rfl rfl rfl (two_of HT_.out (by kernel_rfl)) (by decide) (by decide) (fun K hK => ?_) (fun K hK => ?_)
        · skip
          refine goes_ Try.func31 (by kernel_rfl) rfl #[.slice A0_0 l0_0.length c0_0] (by rfl) rfl rfl (by (try simp only [List.map_toArray, List.map_cons, List.map_nil]); first | done | rfl | (simp only [List.length_drop, List.length_take]; rfl)) ?_
          with_reducible refine (api_Leap_31.calls _ _ l0_0 t134 _ ?side1 ?side2 A3.out).mono ?_
          (case side1 => repeat (first | exact (Kd.C_below HR0_0.out HB.out) | (with_reducible refine Kd.C_alloc ?_ _) | (with_reducible refine Kd.C_drewN ?_ _) | (with_reducible refine Kd.C_drew ?_)))
          (case side2 => exact HC0_0.out)
          rintro e w20 ⟨v135, rfl, ho0, hb⟩
          refine ⟨_, rfl, ?_⟩
          have n0_ := Aside0.mk (Kd.R_lower (Kd.R_newB (Kd.R_newM (M := fun k_ => (w.heap.size ≤ k_)) ho0 (below_size (by repeat (first | (with_reducible first | exact HB.out | apply below_alloc | apply pw_below_drewN | apply below_drew1 | refine below_set ?_ GE130.out | refine below_set ?_ GE131.out | refine below_set ?_ GE132.out | refine below_set ?_ GE133.out) | exact HB.out))) (fun k_ h_ => h_)) (g := gb131) (o := .cells #[.int .i64 a1_0, .int .i64 a1_1, .bool a1_2] 26 (0, 0)) (by (with_reducible repeat (first | refine blk_drewN ?_ _ | refine blk_drew ?_ | refine blk_alloc ?_ _)); exact BK131.out)) (below_size (by repeat (first | (with_reducible first | exact HB.out | apply below_alloc | apply pw_below_drewN | apply below_drew1 | refine below_set ?_ GE130.out | refine below_set ?_ GE131.out | refine below_set ?_ GE132.out | refine below_set ?_ GE133.out) | exact HB.out))))
          have n1_ := Aside0.mk (blk_below (g := gb130) (o := .cells #[.slice A0_0 l0_0.length c0_0, .bool a0_1, .int .i64 a0_2] 24 (0, 0)) (by (with_reducible repeat (first | refine blk_drewN ?_ _ | refine blk_drew ?_ | refine blk_alloc ?_ _)); exact BK130.out) hb)
          have n2_ := Aside0.mk (blk_below (g := gb131) (o := .cells #[.int .i64 a1_0, .int .i64 a1_1, .bool a1_2] 26 (0, 0)) (by (with_reducible repeat (first | refine blk_drewN ?_ _ | refine blk_drew ?_ | refine blk_alloc ?_ _)); exact BK131.out) hb)
          have n3_ := Aside0.mk (blk_below (g := gb132) (o := .cells #[.slice none 0 0, .bool false, .int .i64 0] 24 (0, 0)) (by (with_reducible repeat (first | refine blk_drewN ?_ _ | refine blk_drew ?_ | refine blk_alloc ?_ _)); exact BK132.out) hb)
          have n4_ := Aside0.mk (blk_below (g := gb133) (o := .cells #[.slice A0_0 l0_0.length c0_0, .bool a0_1, .int .i64 a0_2] 24 (0, 0)) (by (with_reducible repeat (first | refine blk_drewN ?_ _ | refine blk_drew ?_ | refine blk_alloc ?_ _)); exact BK133.out) hb)
          have n5_ := Aside0.mk (below_step (by repeat (first | (with_reducible first | exact HB.out | apply below_alloc | apply pw_below_drewN | apply below_drew1 | refine below_set ?_ GE130.out | refine below_set ?_ GE131.out | refine below_set ?_ GE132.out | refine below_set ?_ GE133.out) | exact HB.out)) hb)
          clear BK130
          clear BK131
          clear BK132
          clear BK133
          clear HB
          have HO136 := n0_
          have BK130 := n1_
          have BK131 := n2_
          have BK132 := n3_
          have BK133 := n4_
          have HB := n5_
          clear n0_ n1_ n2_ n3_ n4_ n5_
          (try clear hb)
          (try clear hb2)
          (try clear hk)
          (try clear hi)
          (try clear ho0)
          refine hK.out _ _ ⟨(blk_cell BK130.out 0).trans rfl, (blk_cell BK130.out 1).trans rfl, (blk_cell BK130.out 2).trans rfl, (blk_cell BK131.out 0).trans rfl, (blk_cell BK131.out 1).trans rfl, (blk_cell BK131.out 2).trans rfl⟩ (fun hHeld => ?_)
          clear hK K
          refine norm_ (a' := ?_) ?_ ?_
          rotate_left
          · show Act.put _ (some 16) _ = _
            simp only [Act.put, List.setIfInBounds_toArray, List.set_cons_zero, List.set_cons_succ, i64_w, i32_w]
            rfl
          refine one_ (i := 4) (N := some 18) #[true, true, true, true, true, false, false, false] rfl rfl (one_of HT_.out (by kernel_rfl)) (by decide) (fun K hK => ?_)
          refine Kd.R_lit_step k26 _ 26 ?hg (N := 18) ?hd (xs := ([(⟨a1_0, a1_1, a1_2⟩ : S26)] : List (S26))) (inner := [.int .i64 a1_0, .int .i64 a1_1, .bool a1_2]) (ok := fun _ => True) (okp := fun _ => True) ?hr ?hp (fun _ hk => hk) trivial (Below.refl _ _) (Nat.le_refl _) (by simp) ?_; (case hd => rfl); (case hg => rfl); (case hr => first | (go_simp; done) | (go_simp; rfl)); (case hp => exact (Reps.c3 (show Kd.M k26 _ _ _ (⟨a1_0, a1_1, a1_2⟩ : S26) [.int .i64 a1_0, .int .i64 a1_1, .bool a1_2] from (k26_mkM _ _ _ (⟨a1_0, a1_1, a1_2⟩ : S26) )) (Reps.none _ _)))
          intro v138 w21 ho22 hb hg_ hnew_
          clear hg_ hnew_
          (first | rw [← Ny137.out] at ho22 | (simp only [Int.reduceToNat] at ho22; rw [← Ny137.out] at ho22))
          have n0_ := Aside0.mk (Kd.R_elder' (by (with_reducible repeat (first | apply Kd.R_alloc | apply Kd.R_drewN | apply Kd.R_drew)); exact HO136.out) (Kd.R_base ho22) hb)
          have n1_ := Aside0.mk (Kd.R_lower (Kd.R_newB (Kd.R_new' (Kd.R_newM (M := fun k_ => (w.heap.size ≤ k_)) ho22 (below_size (by repeat (first | (with_reducible first | exact HB.out | apply below_alloc | apply pw_below_drewN | apply below_drew1 | refine below_set ?_ GE130.out | refine below_set ?_ GE131.out | refine below_set ?_ GE132.out | refine below_set ?_ GE133.out) | exact HB.out))) (fun k_ h_ => h_)) (Kd.R_lt (by (with_reducible repeat (first | apply Kd.R_alloc | apply Kd.R_drewN | apply Kd.R_drew)); exact HO136.out))) (g := gb131) (o := .cells #[.int .i64 a1_0, .int .i64 a1_1, .bool a1_2] 26 (0, 0)) (by (with_reducible repeat (first | refine blk_drewN ?_ _ | refine blk_drew ?_ | refine blk_alloc ?_ _)); exact BK131.out)) (below_size (by repeat (first | (with_reducible first | exact HB.out | apply below_alloc | apply pw_below_drewN | apply below_drew1 | refine below_set ?_ GE130.out | refine below_set ?_ GE131.out | refine below_set ?_ GE132.out | refine below_set ?_ GE133.out) | exact HB.out))))
          have n2_ := Aside0.mk (blk_below (g := gb130) (o := .cells #[.slice A0_0 l0_0.length c0_0, .bool a0_1, .int .i64 a0_2] 24 (0, 0)) (by (with_reducible repeat (first | refine blk_drewN ?_ _ | refine blk_drew ?_ | refine blk_alloc ?_ _)); exact BK130.out) hb)
          have n3_ := Aside0.mk (blk_below (g := gb131) (o := .cells #[.int .i64 a1_0, .int .i64 a1_1, .bool a1_2] 26 (0, 0)) (by (with_reducible repeat (first | refine blk_drewN ?_ _ | refine blk_drew ?_ | refine blk_alloc ?_ _)); exact BK131.out) hb)
          have n4_ := Aside0.mk (blk_below (g := gb132) (o := .cells #[.slice none 0 0, .bool false, .int .i64 0] 24 (0, 0)) (by (with_reducible repeat (first | refine blk_drewN ?_ _ | refine blk_drew ?_ | refine blk_alloc ?_ _)); exact BK132.out) hb)
          have n5_ := Aside0.mk (blk_below (g := gb133) (o := .cells #[.slice A0_0 l0_0.length c0_0, .bool a0_1, .int .i64 a0_2] 24 (0, 0)) (by (with_reducible repeat (first | refine blk_drewN ?_ _ | refine blk_drew ?_ | refine blk_alloc ?_ _)); exact BK133.out) hb)
          have n6_ := Aside0.mk (below_step (by repeat (first | (with_reducible first | exact HB.out | apply below_alloc | apply pw_below_drewN | apply below_drew1 | refine below_set ?_ GE130.out | refine below_set ?_ GE131.out | refine below_set ?_ GE132.out | refine below_set ?_ GE133.out) | exact HB.out)) hb)
          clear HO136
          clear BK130
          clear BK131
          clear BK132
          clear BK133
          clear HB
          have HO136 := n0_
          have HO139 := n1_
          have BK130 := n2_
          have BK131 := n3_
          have BK132 := n4_
          have BK133 := n5_
          have HB := n6_
          clear n0_ n1_ n2_ n3_ n4_ n5_ n6_
          clear hb ho22
          refine hK.out _ _ ⟨(blk_cell BK130.out 0).trans rfl, (blk_cell BK130.out 1).trans rfl, (blk_cell BK130.out 2).trans rfl, (blk_cell BK131.out 0).trans rfl, (blk_cell BK131.out 1).trans rfl, (blk_cell BK131.out 2).trans rfl⟩ (fun hHeld => ?_)
          clear hK K
          refine norm_ (a' := ?_) ?_ ?_
          rotate_left
          · show Act.put _ (some 18) _ = _
            simp only [Act.put, List.setIfInBounds_toArray, List.set_cons_zero, List.set_cons_succ, i64_w, i32_w]
            rfl
          exact norm_ (by simp only [putAll, Act.put, List.setIfInBounds_toArray, List.set_cons_zero, List.set_cons_succ]) (hCont (v135, v138) _ ⟨hHeld, (by (with_reducible repeat (first | apply Kd.R_alloc | apply Kd.R_drewN | apply Kd.R_drew)); exact Kd.R_mono HO136.out (fun _ hk => ⟨hk.1.1.1, ⟨hk.2, hk.1.2⟩⟩)), (by (with_reducible repeat (first | apply Kd.R_alloc | apply Kd.R_drewN | apply Kd.R_drew)); exact Kd.R_mono HO139.out (fun _ hk => ⟨hk.1.1.1, ⟨hk.1.2, hk.2⟩⟩)), (by (with_reducible repeat (first | refine blk_drewN ?_ _ | refine blk_drew ?_ | refine blk_alloc ?_ _)); exact BK130.out), (by (with_reducible repeat (first | refine blk_drewN ?_ _ | refine blk_drew ?_ | refine blk_alloc ?_ _)); exact BK131.out), (by (with_reducible repeat (first | refine blk_drewN ?_ _ | refine blk_drew ?_ | refine blk_alloc ?_ _)); exact BK132.out), (by (with_reducible repeat (first | refine blk_drewN ?_ _ | refine blk_drew ?_ | refine blk_alloc ?_ _)); exact BK133.out), (by repeat (first | (with_reducible first | exact HB.out | apply below_alloc | apply pw_below_drewN | apply below_drew1 | refine below_set ?_ GE130.out | refine below_set ?_ GE131.out | refine below_set ?_ GE132.out | refine below_set ?_ GE133.out) | exact HB.out))⟩)
        · skip
          refine Kd.R_lit_step k26 _ 26 ?hg (N := 18) ?hd (xs := ([(⟨a1_0, a1_1, a1_2⟩ : S26)] : List (S26))) (inner := [.int .i64 a1_0, .int .i64 a1_1, .bool a1_2]) (ok := fun _ => True) (okp := fun _ => True) ?hr ?hp (fun _ hk => hk) trivial (Below.refl _ _) (Nat.le_refl _) (by simp) ?_; (case hd => rfl); (case hg => rfl); (case hr => first | (go_simp; done) | (go_simp; rfl)); (case hp => exact (Reps.c3 (show Kd.M k26 _ _ _ (⟨a1_0, a1_1, a1_2⟩ : S26) [.int .i64 a1_0, .int .i64 a1_1, .bool a1_2] from (k26_mkM _ _ _ (⟨a1_0, a1_1, a1_2⟩ : S26) )) (Reps.none _ _)))
          intro v138 w20 ho21 hb hg_ hnew_
          clear hg_ hnew_
          (first | rw [← Ny137.out] at ho21 | (simp only [Int.reduceToNat] at ho21; rw [← Ny137.out] at ho21))
          have n0_ := Aside0.mk (Kd.R_lower (Kd.R_newB (Kd.R_newM (M := fun k_ => (w.heap.size ≤ k_)) ho21 (below_size (by repeat (first | (with_reducible first | exact HB.out | apply below_alloc | apply pw_below_drewN | apply below_drew1 | refine below_set ?_ GE130.out | refine below_set ?_ GE131.out | refine below_set ?_ GE132.out | refine below_set ?_ GE133.out) | exact HB.out))) (fun k_ h_ => h_)) (g := gb131) (o := .cells #[.int .i64 a1_0, .int .i64 a1_1, .bool a1_2] 26 (0, 0)) (by (with_reducible repeat (first | refine blk_drewN ?_ _ | refine blk_drew ?_ | refine blk_alloc ?_ _)); exact BK131.out)) (below_size (by repeat (first | (with_reducible first | exact HB.out | apply below_alloc | apply pw_below_drewN | apply below_drew1 | refine below_set ?_ GE130.out | refine below_set ?_ GE131.out | refine below_set ?_ GE132.out | refine below_set ?_ GE133.out) | exact HB.out))))
          have n1_ := Aside0.mk (blk_below (g := gb130) (o := .cells #[.slice A0_0 l0_0.length c0_0, .bool a0_1, .int .i64 a0_2] 24 (0, 0)) (by (with_reducible repeat (first | refine blk_drewN ?_ _ | refine blk_drew ?_ | refine blk_alloc ?_ _)); exact BK130.out) hb)
          have n2_ := Aside0.mk (blk_below (g := gb131) (o := .cells #[.int .i64 a1_0, .int .i64 a1_1, .bool a1_2] 26 (0, 0)) (by (with_reducible repeat (first | refine blk_drewN ?_ _ | refine blk_drew ?_ | refine blk_alloc ?_ _)); exact BK131.out) hb)
          have n3_ := Aside0.mk (blk_below (g := gb132) (o := .cells #[.slice none 0 0, .bool false, .int .i64 0] 24 (0, 0)) (by (with_reducible repeat (first | refine blk_drewN ?_ _ | refine blk_drew ?_ | refine blk_alloc ?_ _)); exact BK132.out) hb)
          have n4_ := Aside0.mk (blk_below (g := gb133) (o := .cells #[.slice A0_0 l0_0.length c0_0, .bool a0_1, .int .i64 a0_2] 24 (0, 0)) (by (with_reducible repeat (first | refine blk_drewN ?_ _ | refine blk_drew ?_ | refine blk_alloc ?_ _)); exact BK133.out) hb)
          have n5_ := Aside0.mk (below_step (by repeat (first | (with_reducible first | exact HB.out | apply below_alloc | apply pw_below_drewN | apply below_drew1 | refine below_set ?_ GE130.out | refine below_set ?_ GE131.out | refine below_set ?_ GE132.out | refine below_set ?_ GE133.out) | exact HB.out)) hb)
          clear BK130
          clear BK131
          clear BK132
          clear BK133
          clear HB
          have HO139 := n0_
          have BK130 := n1_
          have BK131 := n2_
          have BK132 := n3_
          have BK133 := n4_
          have HB := n5_
          clear n0_ n1_ n2_ n3_ n4_ n5_
          clear hb ho21
          refine hK.out _ _ ⟨(blk_cell BK130.out 0).trans rfl, (blk_cell BK130.out 1).trans rfl, (blk_cell BK130.out 2).trans rfl, (blk_cell BK131.out 0).trans rfl, (blk_cell BK131.out 1).trans rfl, (blk_cell BK131.out 2).trans rfl⟩ (fun hHeld => ?_)
          clear hK K
          refine norm_ (a' := ?_) ?_ ?_
          rotate_left
          · show Act.put _ (some 18) _ = _
            simp only [Act.put, List.setIfInBounds_toArray, List.set_cons_zero, List.set_cons_succ, i64_w, i32_w]
            rfl
          refine one_ (i := 2) (N := some 16) #[true, true, true, true, true, false, false, false] rfl rfl (one_of HT_.out (by kernel_rfl)) (by decide) (fun K hK => ?_)
          refine goes_ Try.func31 (by kernel_rfl) rfl #[.slice A0_0 l0_0.length c0_0] (by rfl) rfl rfl (by (try simp only [List.map_toArray, List.map_cons, List.map_nil]); first | done | rfl | (simp only [List.length_drop, List.length_take]; rfl)) ?_
          with_reducible refine (api_Leap_31.calls _ _ l0_0 t134 _ ?side1 ?side2 A3.out).mono ?_
          (case side1 => repeat (first | exact (Kd.C_below HR0_0.out HB.out) | (with_reducible refine Kd.C_alloc ?_ _) | (with_reducible refine Kd.C_drewN ?_ _) | (with_reducible refine Kd.C_drew ?_)))
          (case side2 => exact HC0_0.out)
          rintro e w22 ⟨v135, rfl, ho0, hb⟩
          refine ⟨_, rfl, ?_⟩
          have n0_ := Aside0.mk (Kd.R_elder' (by (with_reducible repeat (first | apply Kd.R_alloc | apply Kd.R_drewN | apply Kd.R_drew)); exact HO139.out) (Kd.R_base ho0) hb)
          have n1_ := Aside0.mk (Kd.R_lower (Kd.R_newB (Kd.R_new' (Kd.R_newM (M := fun k_ => (w.heap.size ≤ k_)) ho0 (below_size (by repeat (first | (with_reducible first | exact HB.out | apply below_alloc | apply pw_below_drewN | apply below_drew1 | refine below_set ?_ GE130.out | refine below_set ?_ GE131.out | refine below_set ?_ GE132.out | refine below_set ?_ GE133.out) | exact HB.out))) (fun k_ h_ => h_)) (Kd.R_lt (by (with_reducible repeat (first | apply Kd.R_alloc | apply Kd.R_drewN | apply Kd.R_drew)); exact HO139.out))) (g := gb131) (o := .cells #[.int .i64 a1_0, .int .i64 a1_1, .bool a1_2] 26 (0, 0)) (by (with_reducible repeat (first | refine blk_drewN ?_ _ | refine blk_drew ?_ | refine blk_alloc ?_ _)); exact BK131.out)) (below_size (by repeat (first | (with_reducible first | exact HB.out | apply below_alloc | apply pw_below_drewN | apply below_drew1 | refine below_set ?_ GE130.out | refine below_set ?_ GE131.out | refine below_set ?_ GE132.out | refine below_set ?_ GE133.out) | exact HB.out))))
          have n2_ := Aside0.mk (blk_below (g := gb130) (o := .cells #[.slice A0_0 l0_0.length c0_0, .bool a0_1, .int .i64 a0_2] 24 (0, 0)) (by (with_reducible repeat (first | refine blk_drewN ?_ _ | refine blk_drew ?_ | refine blk_alloc ?_ _)); exact BK130.out) hb)
          have n3_ := Aside0.mk (blk_below (g := gb131) (o := .cells #[.int .i64 a1_0, .int .i64 a1_1, .bool a1_2] 26 (0, 0)) (by (with_reducible repeat (first | refine blk_drewN ?_ _ | refine blk_drew ?_ | refine blk_alloc ?_ _)); exact BK131.out) hb)
          have n4_ := Aside0.mk (blk_below (g := gb132) (o := .cells #[.slice none 0 0, .bool false, .int .i64 0] 24 (0, 0)) (by (with_reducible repeat (first | refine blk_drewN ?_ _ | refine blk_drew ?_ | refine blk_alloc ?_ _)); exact BK132.out) hb)
          have n5_ := Aside0.mk (blk_below (g := gb133) (o := .cells #[.slice A0_0 l0_0.length c0_0, .bool a0_1, .int .i64 a0_2] 24 (0, 0)) (by (with_reducible repeat (first | refine blk_drewN ?_ _ | refine blk_drew ?_ | refine blk_alloc ?_ _)); exact BK133.out) hb)
          have n6_ := Aside0.mk (below_step (by repeat (first | (with_reducible first | exact HB.out | apply below_alloc | apply pw_below_drewN | apply below_drew1 | refine below_set ?_ GE130.out | refine below_set ?_ GE131.out | refine below_set ?_ GE132.out | refine below_set ?_ GE133.out) | exact HB.out)) hb)
          clear HO139
          clear BK130
          clear BK131
          clear BK132
          clear BK133
          clear HB
          have HO139 := n0_
          have HO136 := n1_
          have BK130 := n2_
          have BK131 := n3_
          have BK132 := n4_
          have BK133 := n5_
          have HB := n6_
          clear n0_ n1_ n2_ n3_ n4_ n5_ n6_
          (try clear hb)
          (try clear hb2)
          (try clear hk)
          (try clear hi)
          (try clear ho0)
          refine hK.out _ _ ⟨(blk_cell BK130.out 0).trans rfl, (blk_cell BK130.out 1).trans rfl, (blk_cell BK130.out 2).trans rfl, (blk_cell BK131.out 0).trans rfl, (blk_cell BK131.out 1).trans rfl, (blk_cell BK131.out 2).trans rfl⟩ (fun hHeld => ?_)
          clear hK K
          refine norm_ (a' := ?_) ?_ ?_
          rotate_left
          · show Act.put _ (some 16) _ = _
            simp only [Act.put, List.setIfInBounds_toArray, List.set_cons_zero, List.set_cons_succ, i64_w, i32_w]
            rfl
          exact norm_ (by simp only [putAll, Act.put, List.setIfInBounds_toArray, List.set_cons_zero, List.set_cons_succ]) (hCont (v135, v138) _ ⟨hHeld, (by (with_reducible repeat (first | apply Kd.R_alloc | apply Kd.R_drewN | apply Kd.R_drew)); exact Kd.R_mono HO136.out (fun _ hk => ⟨hk.1.1.1, ⟨hk.1.2, hk.2⟩⟩)), (by (with_reducible repeat (first | apply Kd.R_alloc | apply Kd.R_drewN | apply Kd.R_drew)); exact Kd.R_mono HO139.out (fun _ hk => ⟨hk.1.1.1, ⟨hk.2, hk.1.2⟩⟩)), (by (with_reducible repeat (first | refine blk_drewN ?_ _ | refine blk_drew ?_ | refine blk_alloc ?_ _)); exact BK130.out), (by (with_reducible repeat (first | refine blk_drewN ?_ _ | refine blk_drew ?_ | refine blk_alloc ?_ _)); exact BK131.out), (by (with_reducible repeat (first | refine blk_drewN ?_ _ | refine blk_drew ?_ | refine blk_alloc ?_ _)); exact BK132.out), (by (with_reducible repeat (first | refine blk_drewN ?_ _ | refine blk_drew ?_ | refine blk_alloc ?_ _)); exact BK133.out), (by repeat (first | (with_reducible first | exact HB.out | apply below_alloc | apply pw_below_drewN | apply below_drew1 | refine below_set ?_ GE130.out | refine below_set ?_ GE131.out | refine below_set ?_ GE132.out | refine below_set ?_ GE133.out) | exact HB.out))⟩)
      rintro ⟨v135, v138⟩ w23 ⟨hS_, h0_, h1_, h2_, h3_, h4_, h5_, h6_⟩
      have n0_ : Aside0 (Kd.R k26 26 w23 w.heap.size (fun k_ => (w.heap.size ≤ k_) ∧ some k_ ≠ (v138 : Value).ownBlock ∧ k_ ≠ gb131) v135 t134) := ⟨h0_⟩
      have n1_ : Aside0 (Kd.R k26 26 w23 w.heap.size (fun k_ => (w.heap.size ≤ k_) ∧ some k_ ≠ (v135 : Value).ownBlock ∧ k_ ≠ gb131) v138 y137) := ⟨h1_⟩
      have n2_ : Aside0 (w23.heap[gb130]? = some (.cells #[.slice A0_0 l0_0.length c0_0, .bool a0_1, .int .i64 a0_2] 24 (0, 0))) := ⟨h2_⟩
      have n3_ : Aside0 (w23.heap[gb131]? = some (.cells #[.int .i64 a1_0, .int .i64 a1_1, .bool a1_2] 26 (0, 0))) := ⟨h3_⟩
      have n4_ : Aside0 (w23.heap[gb132]? = some (.cells #[.slice none 0 0, .bool false, .int .i64 0] 24 (0, 0))) := ⟨h4_⟩
      have n5_ : Aside0 (w23.heap[gb133]? = some (.cells #[.slice A0_0 l0_0.length c0_0, .bool a0_1, .int .i64 a0_2] 24 (0, 0))) := ⟨h5_⟩
      have n6_ : Aside0 (Below w.heap.size w w23) := ⟨h6_⟩
      clear BK130
      clear BK131
      clear BK132
      clear BK133
      clear HB
      clear h0_ h1_ h2_ h3_ h4_ h5_ h6_
      have HO136 := n0_
      have HO139 := n1_
      have BK130 := n2_
      have BK131 := n3_
      have BK132 := n4_
      have BK133 := n5_
      have HB := n6_
      clear n0_ n1_ n2_ n3_ n4_ n5_ n6_
      have hHeld : w23.cell? ⟨gb130, 0, none⟩ = some (.slice A0_0 l0_0.length c0_0) ∧ w23.cell? ⟨gb130, 1, none⟩ = some (.bool a0_1) ∧ w23.cell? ⟨gb130, 2, none⟩ = some (.int .i64 a0_2) ∧ w23.cell? ⟨gb131, 0, none⟩ = some (.int .i64 a1_0) ∧ w23.cell? ⟨gb131, 1, none⟩ = some (.int .i64 a1_1) ∧ w23.cell? ⟨gb131, 2, none⟩ = some (.bool a1_2) := hS_
      obtain ⟨Ao25, co25, eo25⟩ := Kd.R_slice HO139.out
      (first | subst eo25 | (injection eo25 with f1_ f2_ f3_; have f4_ := f1_.symm; have f5_ := f3_.symm; clear f1_ f2_ f3_; subst f4_; subst f5_))
      refine norm_ (a' := ?_) ?_ ?_
      rotate_left
      · simp only [putAll, Act.put, List.setIfInBounds_toArray, List.set_cons_zero, List.set_cons_succ]
        rfl
      refine one_ (i := 5) (N := some 19) #[true, true, true, true, true, true, false, false] rfl rfl (one_of HT_.out (by kernel_rfl)) (by decide) (fun K hK => ?_)
      refine Kd.R_append_rows_step k26 (w0 := w) w.heap.size (by rfl) (.tmp 16) (.tmp 18) 22 26 (.agg #[(.int .i64 0), (.int .i64 0), (.bool false)]) 24 rfl Try.underlying22 info26 rfl (by decide) (by omega) v135 t134 y137 _ _ _ (fun k_ => (w.heap.size ≤ k_) ∧ some k_ ≠ (.slice Ao25 y137.length co25 : Value).ownBlock ∧ k_ ≠ gb131) (fun _ => False) rfl rfl ?aO ?aR (fun _ _ h => h) (fun _ h => h.elim) ?aF ?aB ?aS ?aL ?_
      (case aR => repeat (first | exact (Kd.R_reads' HO139.out).2.2 | (with_reducible refine Kd.C_alloc ?_ _) | (with_reducible refine Kd.C_drewN ?_ _) | (with_reducible refine Kd.C_drew ?_)))
      (case aB => exact (by repeat (first | (with_reducible first | exact HB.out | apply below_alloc | apply pw_below_drewN | apply below_drew1 | refine below_set ?_ GE130.out | refine below_set ?_ GE131.out | refine below_set ?_ GE132.out | refine below_set ?_ GE133.out) | exact HB.out)))
      (case aF => exact (fun k_ hk => ⟨(Nat.le_trans (below_size (by repeat (first | (with_reducible first | exact HB.out | apply below_alloc | apply pw_below_drewN | apply below_drew1 | refine below_set ?_ GE130.out | refine below_set ?_ GE131.out | refine below_set ?_ GE132.out | refine below_set ?_ GE133.out) | exact HB.out))) hk), Kd.fresh' (Kd.R_lt (by (with_reducible repeat (first | apply Kd.R_alloc | apply Kd.R_drewN | apply Kd.R_drew)); exact HO139.out)) k_ hk, Kd.freshB (g := gb131) (o := .cells #[.int .i64 a1_0, .int .i64 a1_1, .bool a1_2] 26 (0, 0)) (by (with_reducible repeat (first | refine blk_drewN ?_ _ | refine blk_drew ?_ | refine blk_alloc ?_ _)); exact BK131.out) k_ hk⟩))
      (case aO => exact (by (with_reducible repeat (first | apply Kd.R_alloc | apply Kd.R_drewN | apply Kd.R_drew)); exact HO136.out))
      (case aS => exact (below_size (by repeat (first | (with_reducible first | exact HB.out | apply below_alloc | apply pw_below_drewN | apply below_drew1 | refine below_set ?_ GE130.out | refine below_set ?_ GE131.out | refine below_set ?_ GE132.out | refine below_set ?_ GE133.out) | exact HB.out))))
      (case aL => have := LMc4.out; omega)
      intro v141 w24 ho hb hg hat
      rw [← Ny140.out] at ho
      have n0_ := Aside0.mk (blk_grown (g := gb130) (o := .cells #[.slice A0_0 l0_0.length c0_0, .bool a0_1, .int .i64 a0_2] 24 (0, 0)) (by (with_reducible repeat (first | refine blk_drewN ?_ _ | refine blk_drew ?_ | refine blk_alloc ?_ _)); exact BK130.out) hg (Kd.R_ne HO136.out BK130.out (by decide)))
      have n1_ := Aside0.mk (blk_grown (g := gb131) (o := .cells #[.int .i64 a1_0, .int .i64 a1_1, .bool a1_2] 26 (0, 0)) (by (with_reducible repeat (first | refine blk_drewN ?_ _ | refine blk_drew ?_ | refine blk_alloc ?_ _)); exact BK131.out) hg (Kd.R_away HO136.out (fun _ hk => hk.2.2)))
      have n2_ := Aside0.mk (blk_grown (g := gb132) (o := .cells #[.slice none 0 0, .bool false, .int .i64 0] 24 (0, 0)) (by (with_reducible repeat (first | refine blk_drewN ?_ _ | refine blk_drew ?_ | refine blk_alloc ?_ _)); exact BK132.out) hg (Kd.R_ne HO136.out BK132.out (by decide)))
      have n3_ := Aside0.mk (blk_grown (g := gb133) (o := .cells #[.slice A0_0 l0_0.length c0_0, .bool a0_1, .int .i64 a0_2] 24 (0, 0)) (by (with_reducible repeat (first | refine blk_drewN ?_ _ | refine blk_drew ?_ | refine blk_alloc ?_ _)); exact BK133.out) hg (Kd.R_ne HO136.out BK133.out (by decide)))
      have n4_ := Aside0.mk (Kd.R_after (ok := (fun k_ => (w.heap.size ≤ k_) ∧ k_ ≠ gb131)) (by (with_reducible repeat (first | apply Kd.R_alloc | apply Kd.R_drewN | apply Kd.R_drew)); exact Kd.R_mono HO139.out (fun _ hk => ⟨⟨hk.1, hk.2.2⟩, hk.2.1⟩)) hg hat)
      have n5_ := Aside0.mk (hb)
      have n6_ := Aside0.mk (ho)
      clear BK130
      clear BK131
      clear BK132
      clear BK133
      clear HO139
      clear HB
      clear HO136
      have BK130 := n0_
      have BK131 := n1_
      have BK132 := n2_
      have BK133 := n3_
      have HO139 := n4_
      have HB := n5_
      have HO142 := n6_
      clear n0_ n1_ n2_ n3_ n4_ n5_ n6_
      clear ho hb hg hat
      obtain ⟨Ao26, co26, eo26⟩ := Kd.R_slice HO142.out
      (first | subst eo26 | (injection eo26 with f1_ f2_ f3_; have f4_ := f1_.symm; have f5_ := f3_.symm; clear f1_ f2_ f3_; subst f4_; subst f5_))
      refine hK.out _ _ ⟨(blk_cell BK130.out 0).trans rfl, (blk_cell BK130.out 1).trans rfl, (blk_cell BK130.out 2).trans rfl, (blk_cell BK131.out 0).trans rfl, (blk_cell BK131.out 1).trans rfl, (blk_cell BK131.out 2).trans rfl⟩ (fun hHeld => ?_)
      clear hK K
      refine norm_ (a' := ?_) ?_ ?_
      rotate_left
      · show Act.put _ (some 19) _ = _
        simp only [Act.put, List.setIfInBounds_toArray, List.set_cons_zero, List.set_cons_succ, i64_w, i32_w]
        rfl
      refine pure_ (i := 6) (N := some 20) (v := ?_) (a' := ?_) #[true, true, true, true, true, true, true, false] rfl rfl (any_of HT_.out (by kernel_rfl)) (fun _ _ _ h => h) (Or.inl ⟨by rfl, ?_⟩) ?_ ?_
      rotate_left
      · intro w'
        go_simp
        with_reducible rfl
      rotate_left
      · simp only [Act.put, List.setIfInBounds_toArray, List.set_cons_zero, List.set_cons_succ, i64_w, i32_w]
        rfl
      refine one_ (i := 7) (N := none) #[true, true, true, true, true, true, true, true] rfl rfl (one_of HT_.out (by kernel_rfl)) (by decide) (fun K hK => ?_)
      have hs27 : w24.cell? ⟨gb133, 0, none⟩ = some (.slice A0_0 l0_0.length c0_0) := (blk_cell BK133.out 0).trans rfl
      have hfs27 := blk_frozen BK133.out 0
      have hns27_0 := NB130_133.out
      have hns27_1 := NB131_133.out
      have hns27_2 := NB132_133.out
      have hms27_0 := NB133_130.out
      have hms27_1 := NB133_131.out
      have hms27_2 := NB133_132.out
      refine skip_ (w1 := ?_) (by rfl) rfl ?_ ?_
      rotate_left
      · go_simp
        rfl
      refine hK.out _ _ ⟨((cell_far (p := ⟨gb133, _, none⟩) NB130_133.out _).trans (hHeld.1)), ((cell_far (p := ⟨gb133, _, none⟩) NB130_133.out _).trans (hHeld.2.1)), ((cell_far (p := ⟨gb133, _, none⟩) NB130_133.out _).trans (hHeld.2.2.1)), ((cell_far (p := ⟨gb133, _, none⟩) NB131_133.out _).trans (hHeld.2.2.2.1)), ((cell_far (p := ⟨gb133, _, none⟩) NB131_133.out _).trans (hHeld.2.2.2.2.1)), ((cell_far (p := ⟨gb133, _, none⟩) NB131_133.out _).trans (hHeld.2.2.2.2.2))⟩ (fun hHeld => ?_)
      clear hK K
      refine done_ (done_of HT_.out (by kernel_rfl)) ?_
      have hcz28_0 : w24.cell? ⟨gb133, 0, none⟩ = some (.slice A0_0 l0_0.length c0_0) := (blk_cell BK133.out 0).trans rfl
      have hcz28_1 : w24.cell? ⟨gb133, 1, none⟩ = some (.bool a0_1) := (blk_cell BK133.out 1).trans rfl
      have hcz28_2 : w24.cell? ⟨gb133, 2, none⟩ = some (.int .i64 a0_2) := (blk_cell BK133.out 2).trans rfl
      have hfz28_0 := blk_frozen BK133.out 0
      have hfz28_1 := blk_frozen BK133.out 1
      have hfz28_2 := blk_frozen BK133.out 2
      try go_wp2_with (first | ((with_reducible refine gate_callee (f := 11) rfl ?_); refine goesL_ (some 23) rfl rfl Try.func11 (by kernel_rfl) rfl #[.agg #[.slice Ao26 y140.length co26, .bool a0_1, .int .i64 a0_2]] rfl (by (try simp only [List.map_toArray, List.map_cons, List.map_nil]); first | done | rfl | (simp only [List.length_drop, List.length_take]; rfl)) ?_; (with_reducible refine (leap_Check.calls k _ _ y140 a0_1 a0_2 t143 t144 _ ?side1 ?side2 A5.out).mono ?_); (case side1 => refine (Kd.R_reads' (e := 26) (base := w.heap.size) (ok := fun k_ => ((w.heap.size ≤ k_) ∧ (some k_ ≠ (.slice Ao25 y137.length co25 : Value).ownBlock ∧ k_ ≠ gb131))) (n := y140.length) (c := co26) ?_).2.2; exact (by (with_reducible repeat (first | apply Kd.R_alloc | apply Kd.R_drewN | apply Kd.R_drew)); exact (Kd.R_mono (Kd.R_far (p := ⟨gb133, 0, none⟩) (Kd.R_types HO142.out BK133.out (by decide)) (fun _ hk => hk.2) (.slice Ao26 y140.length co26)) (fun _ h_ => h_.1)))); (case side2 => exact (Kd.R_reads' HO142.out).2.1); rintro e w29 ⟨rfl, hb⟩; refine ⟨_, rfl, ?_⟩; have n0_ := Aside0.mk (Kd.R_below (by (with_reducible repeat (first | apply Kd.R_alloc | apply Kd.R_drewN | apply Kd.R_drew)); exact (Kd.R_mono (Kd.R_far (p := ⟨gb133, 0, none⟩) (Kd.R_types HO139.out BK133.out (by decide)) (fun _ hk => hk.2) (.slice Ao26 y140.length co26)) (fun _ h_ => h_.1))) hb); have n1_ := Aside0.mk (Kd.R_below (by (with_reducible repeat (first | apply Kd.R_alloc | apply Kd.R_drewN | apply Kd.R_drew)); exact (Kd.R_mono (Kd.R_far (p := ⟨gb133, 0, none⟩) (Kd.R_types HO142.out BK133.out (by decide)) (fun _ hk => hk.2) (.slice Ao26 y140.length co26)) (fun _ h_ => h_.1))) hb); have n2_ := Aside0.mk (blk_below (g := gb130) (o := .cells #[.slice A0_0 l0_0.length c0_0, .bool a0_1, .int .i64 a0_2] 24 (0, 0)) (by (with_reducible repeat (first | refine blk_drewN ?_ _ | refine blk_drew ?_ | refine blk_alloc ?_ _)); refine blk_far ?_ NB130_133.out _; (with_reducible repeat (first | refine blk_drewN ?_ _ | refine blk_drew ?_ | refine blk_alloc ?_ _)); exact BK130.out) hb); have n3_ := Aside0.mk (blk_below (g := gb131) (o := .cells #[.int .i64 a1_0, .int .i64 a1_1, .bool a1_2] 26 (0, 0)) (by (with_reducible repeat (first | refine blk_drewN ?_ _ | refine blk_drew ?_ | refine blk_alloc ?_ _)); refine blk_far ?_ NB131_133.out _; (with_reducible repeat (first | refine blk_drewN ?_ _ | refine blk_drew ?_ | refine blk_alloc ?_ _)); exact BK131.out) hb); have n4_ := Aside0.mk (blk_below (g := gb132) (o := .cells #[.slice none 0 0, .bool false, .int .i64 0] 24 (0, 0)) (by (with_reducible repeat (first | refine blk_drewN ?_ _ | refine blk_drew ?_ | refine blk_alloc ?_ _)); refine blk_far ?_ NB132_133.out _; (with_reducible repeat (first | refine blk_drewN ?_ _ | refine blk_drew ?_ | refine blk_alloc ?_ _)); exact BK132.out) hb); have n5_ := Aside0.mk (blk_below (g := gb133) (o := .cells #[.slice Ao26 y140.length co26, .bool a0_1, .int .i64 a0_2] 24 (0, 0)) (by (with_reducible repeat (first | refine blk_drewN ?_ _ | refine blk_drew ?_ | refine blk_alloc ?_ _)); refine blk_put (cs := #[.slice A0_0 l0_0.length c0_0, .bool a0_1, .int .i64 a0_2]) ?_ 0 _ rfl; (with_reducible repeat (first | refine blk_drewN ?_ _ | refine blk_drew ?_ | refine blk_alloc ?_ _)); exact BK133.out) hb); have n6_ := Aside0.mk (below_step (by repeat (first | (with_reducible first | exact HB.out | apply below_alloc | apply pw_below_drewN | apply below_drew1 | refine below_set ?_ GE130.out | refine below_set ?_ GE131.out | refine below_set ?_ GE132.out | refine below_set ?_ GE133.out) | exact HB.out)) hb); clear HO139; clear HO142; clear BK130; clear BK131; clear BK132; clear BK133; clear HB; have HO139 := n0_; have HO142 := n1_; have BK130 := n2_; have BK131 := n3_; have BK132 := n4_; have BK133 := n5_; have HB := n6_; clear n0_ n1_ n2_ n3_ n4_ n5_ n6_; (try clear hb); (try clear hb2); (try clear hk); (try clear hi); have hcz30_0 : w29.cell? ⟨gb133, 0, none⟩ = some (.slice Ao26 y140.length co26) := (blk_cell BK133.out 0).trans rfl; have hcz30_1 : w29.cell? ⟨gb133, 1, none⟩ = some (.bool a0_1) := (blk_cell BK133.out 1).trans rfl; have hcz30_2 : w29.cell? ⟨gb133, 2, none⟩ = some (.int .i64 a0_2) := (blk_cell BK133.out 2).trans rfl; have hfz30_0 := blk_frozen BK133.out 0; have hfz30_1 := blk_frozen BK133.out 1; have hfz30_2 := blk_frozen BK133.out 2; have hnb31 := NB132_131.out; have hnc31 := NB131_132.out; have hcz32_0 : w29.cell? ⟨gb132, 0, none⟩ = some (.slice none 0 0) := (blk_cell BK132.out 0).trans rfl; have hcz32_1 : w29.cell? ⟨gb132, 1, none⟩ = some (.bool false) := (blk_cell BK132.out 1).trans rfl; have hcz32_2 : w29.cell? ⟨gb132, 2, none⟩ = some (.int .i64 0) := (blk_cell BK132.out 2).trans rfl; have hfz32_0 := blk_frozen BK132.out 0; have hfz32_1 := blk_frozen BK132.out 1; have hfz32_2 := blk_frozen BK132.out 2))
      refine bodyPost_ret (results_ct rfl _ _ gb132 24 #[.slice Ao26 y140.length co26, .bool a0_1, .int .i64 a0_2] (0, 0) _ rfl (by (with_reducible repeat (first | refine blk_drewN ?_ _ | refine blk_drew ?_ | refine blk_alloc ?_ _)); refine blk_put (cs := #[.slice Ao26 y140.length co26, .bool a0_1, .int .i64 0]) ?_ 2 _ rfl; (with_reducible repeat (first | refine blk_drewN ?_ _ | refine blk_drew ?_ | refine blk_alloc ?_ _)); refine blk_put (cs := #[.slice Ao26 y140.length co26, .bool false, .int .i64 0]) ?_ 1 _ rfl; (with_reducible repeat (first | refine blk_drewN ?_ _ | refine blk_drew ?_ | refine blk_alloc ?_ _)); refine blk_put (cs := #[.slice none 0 0, .bool false, .int .i64 0]) ?_ 0 _ rfl; (with_reducible repeat (first | refine blk_drewN ?_ _ | refine blk_drew ?_ | refine blk_alloc ?_ _)); exact BK132.out) Try.underlying24 rfl (by kernel_rfl)) rfl ?_
      exact ⟨_, by first | rfl | (simp [errW_none, errW_some] <;> rfl) | (simp [*, errW_none, errW_some] <;> rfl), Kd.VW_of (by (with_reducible repeat (first | apply Kd.R_alloc | apply Kd.R_drewN | apply Kd.R_drew)); exact Kd.R_mono (Kd.R_far (p := ⟨gb132, 2, none⟩) (Kd.R_far (p := ⟨gb132, 1, none⟩) (Kd.R_far (p := ⟨gb132, 0, none⟩) (Kd.R_types HO142.out BK132.out (by decide)) (fun _ hk => hk.2) (.slice Ao26 y140.length co26)) (fun _ hk => hk.2) (.bool a0_1)) (fun _ hk => hk.2) (.int .i64 a0_2)) (fun _ hk => hk.1.1)), by repeat (first | (with_reducible first | exact HB.out | apply below_alloc | apply pw_below_drewN | apply below_drew1 | refine below_set ?_ GE130.out | refine below_set ?_ GE131.out | refine below_set ?_ GE132.out | refine below_set ?_ GE133.out) | exact HB.out)⟩
    · rw [if_neg c6] at H
      have c6b0 : (t144 == 0) = false := beq_eq_false_iff_ne.mpr c6
      have c6b1 : (t144 != 0) = true := bne_iff_ne.mpr c6
      clear c6
      simp only [Option.some.injEq, Prod.mk.injEq] at H
      obtain ⟨rfl, rfl, rfl, rfl⟩ := H
      have HLEN : Aside0 (l0_0.length ≤ y140.length) := ⟨by
        have z1_ := A3.out
        unfold api_Leap_31.f at z1_
        simp only [Option.bind_some, List.nil_append] at z1_
        split at z1_
        · obtain rfl := Option.some.inj z1_
          rw [Ny140.out, List.length_append]; omega
        · exact absurd z1_ (by simp)⟩
      go_enter Try.func18, Try.ntmps18
      try go_wp2_with (first | ((with_reducible refine gate_dst (N := 2) rfl ?_); refine box_event ?hg (N := 2) ?hd (cs := #[.slice A0_0 l0_0.length c0_0, .bool a0_1, .int .i64 a0_2]) (t := 24) ?hr ?_; (case hd => rfl); (case hg => rfl); (case hr => first | (go_simp; done) | (go_simp; rfl)); intro gb130 hg w7 hbox hb; have n0_ := Aside0.mk (below_step (by repeat (first | (with_reducible first | exact HB.out | apply below_alloc | apply pw_below_drewN | apply below_drew1) | exact HB.out)) hb); have n1_ := Aside0.mk (hbox); have n2_ := Aside0.mk ((by rw [hg]; exact (below_size (by repeat (first | (with_reducible first | exact HB.out | apply below_alloc | apply pw_below_drewN | apply below_drew1) | exact HB.out))) : w.heap.size ≤ gb130)); have n3_ := Aside0.mk ((by rw [hg]; exact (below_size (by repeat (first | (with_reducible first | exact HB.out | apply below_alloc | apply pw_below_drewN | apply below_drew1) | exact HB.out))) : w.heap.size ≤ gb130)); clear HB; have HB := n0_; have BK130 := n1_; have GW130 := n2_; have GE130 := n3_; clear n0_ n1_ n2_ n3_; clear hb hbox hg) | ((with_reducible refine gate_dst (N := 3) rfl ?_); refine box_event ?hg (N := 3) ?hd (cs := #[.int .i64 a1_0, .int .i64 a1_1, .bool a1_2]) (t := 26) ?hr ?_; (case hd => rfl); (case hg => rfl); (case hr => first | (go_simp; done) | (go_simp; rfl)); intro gb131 hg w8 hbox hb; have n0_ := Aside0.mk (blk_below (g := gb130) (o := .cells #[.slice A0_0 l0_0.length c0_0, .bool a0_1, .int .i64 a0_2] 24 (0, 0)) (by (with_reducible repeat (first | refine blk_drewN ?_ _ | refine blk_drew ?_ | refine blk_alloc ?_ _)); exact BK130.out) hb); have n1_ := Aside0.mk (below_step (by repeat (first | (with_reducible first | exact HB.out | apply below_alloc | apply pw_below_drewN | apply below_drew1 | refine below_set ?_ GE130.out) | exact HB.out)) hb); have n2_ := Aside0.mk (hbox); have n3_ := Aside0.mk ((by rw [hg]; exact (below_size (by repeat (first | (with_reducible first | exact HB.out | apply below_alloc | apply pw_below_drewN | apply below_drew1 | refine below_set ?_ GE130.out) | exact HB.out))) : w.heap.size ≤ gb131)); have n4_ := Aside0.mk ((by rw [hg]; exact (below_size (by repeat (first | (with_reducible first | exact HB.out | apply below_alloc | apply pw_below_drewN | apply below_drew1 | refine below_set ?_ GE130.out) | exact HB.out))) : w.heap.size ≤ gb131)); have n5_ := Aside0.mk ((by rw [hg]; exact Nat.ne_of_lt (blk_lt (g := gb130) (o := .cells #[.slice A0_0 l0_0.length c0_0, .bool a0_1, .int .i64 a0_2] 24 (0, 0)) (by (with_reducible repeat (first | refine blk_drewN ?_ _ | refine blk_drew ?_ | refine blk_alloc ?_ _)); exact BK130.out)) : gb130 ≠ gb131)); have n6_ := Aside0.mk ((by rw [hg]; exact Nat.ne_of_gt (blk_lt (g := gb130) (o := .cells #[.slice A0_0 l0_0.length c0_0, .bool a0_1, .int .i64 a0_2] 24 (0, 0)) (by (with_reducible repeat (first | refine blk_drewN ?_ _ | refine blk_drew ?_ | refine blk_alloc ?_ _)); exact BK130.out)) : gb131 ≠ gb130)); clear BK130; clear HB; have BK130 := n0_; have HB := n1_; have BK131 := n2_; have GW131 := n3_; have GE131 := n4_; have NB130_131 := n5_; have NB131_130 := n6_; clear n0_ n1_ n2_ n3_ n4_ n5_ n6_; clear hb hbox hg) | ((with_reducible refine gate_dst (N := 4) rfl ?_); refine box_event ?hg (N := 4) ?hd (cs := #[.slice none 0 0, .bool false, .int .i64 0]) (t := 24) ?hr ?_; (case hd => rfl); (case hg => rfl); (case hr => first | (go_simp; done) | (go_simp; rfl)); intro gb132 hg w9 hbox hb; have n0_ := Aside0.mk (blk_below (g := gb130) (o := .cells #[.slice A0_0 l0_0.length c0_0, .bool a0_1, .int .i64 a0_2] 24 (0, 0)) (by (with_reducible repeat (first | refine blk_drewN ?_ _ | refine blk_drew ?_ | refine blk_alloc ?_ _)); exact BK130.out) hb); have n1_ := Aside0.mk (blk_below (g := gb131) (o := .cells #[.int .i64 a1_0, .int .i64 a1_1, .bool a1_2] 26 (0, 0)) (by (with_reducible repeat (first | refine blk_drewN ?_ _ | refine blk_drew ?_ | refine blk_alloc ?_ _)); exact BK131.out) hb); have n2_ := Aside0.mk (below_step (by repeat (first | (with_reducible first | exact HB.out | apply below_alloc | apply pw_below_drewN | apply below_drew1 | refine below_set ?_ GE130.out | refine below_set ?_ GE131.out) | exact HB.out)) hb); have n3_ := Aside0.mk (hbox); have n4_ := Aside0.mk ((by rw [hg]; exact (below_size (by repeat (first | (with_reducible first | exact HB.out | apply below_alloc | apply pw_below_drewN | apply below_drew1 | refine below_set ?_ GE130.out | refine below_set ?_ GE131.out) | exact HB.out))) : w.heap.size ≤ gb132)); have n5_ := Aside0.mk ((by rw [hg]; exact (below_size (by repeat (first | (with_reducible first | exact HB.out | apply below_alloc | apply pw_below_drewN | apply below_drew1 | refine below_set ?_ GE130.out | refine below_set ?_ GE131.out) | exact HB.out))) : w.heap.size ≤ gb132)); have n6_ := Aside0.mk ((by rw [hg]; exact Nat.ne_of_lt (blk_lt (g := gb130) (o := .cells #[.slice A0_0 l0_0.length c0_0, .bool a0_1, .int .i64 a0_2] 24 (0, 0)) (by (with_reducible repeat (first | refine blk_drewN ?_ _ | refine blk_drew ?_ | refine blk_alloc ?_ _)); exact BK130.out)) : gb130 ≠ gb132)); have n7_ := Aside0.mk ((by rw [hg]; exact Nat.ne_of_gt (blk_lt (g := gb130) (o := .cells #[.slice A0_0 l0_0.length c0_0, .bool a0_1, .int .i64 a0_2] 24 (0, 0)) (by (with_reducible repeat (first | refine blk_drewN ?_ _ | refine blk_drew ?_ | refine blk_alloc ?_ _)); exact BK130.out)) : gb132 ≠ gb130)); have n8_ := Aside0.mk ((by rw [hg]; exact Nat.ne_of_lt (blk_lt (g := gb131) (o := .cells #[.int .i64 a1_0, .int .i64 a1_1, .bool a1_2] 26 (0, 0)) (by (with_reducible repeat (first | refine blk_drewN ?_ _ | refine blk_drew ?_ | refine blk_alloc ?_ _)); exact BK131.out)) : gb131 ≠ gb132)); have n9_ := Aside0.mk ((by rw [hg]; exact Nat.ne_of_gt (blk_lt (g := gb131) (o := .cells #[.int .i64 a1_0, .int .i64 a1_1, .bool a1_2] 26 (0, 0)) (by (with_reducible repeat (first | refine blk_drewN ?_ _ | refine blk_drew ?_ | refine blk_alloc ?_ _)); exact BK131.out)) : gb132 ≠ gb131)); clear BK130; clear BK131; clear HB; have BK130 := n0_; have BK131 := n1_; have HB := n2_; have BK132 := n3_; have GW132 := n4_; have GE132 := n5_; have NB130_132 := n6_; have NB132_130 := n7_; have NB131_132 := n8_; have NB132_131 := n9_; clear n0_ n1_ n2_ n3_ n4_ n5_ n6_ n7_ n8_ n9_; clear hb hbox hg; have hnb10 := NB130_131.out; have hnc10 := NB131_130.out; have hnb11 := NB130_132.out; have hnc11 := NB132_130.out; have hcz12_0 : w9.cell? ⟨gb130, 0, none⟩ = some (.slice A0_0 l0_0.length c0_0) := (blk_cell BK130.out 0).trans rfl; have hcz12_1 : w9.cell? ⟨gb130, 1, none⟩ = some (.bool a0_1) := (blk_cell BK130.out 1).trans rfl; have hcz12_2 : w9.cell? ⟨gb130, 2, none⟩ = some (.int .i64 a0_2) := (blk_cell BK130.out 2).trans rfl; have hfz12_0 := blk_frozen BK130.out 0; have hfz12_1 := blk_frozen BK130.out 1; have hfz12_2 := blk_frozen BK130.out 2) | ((with_reducible refine gate_dst (N := 7) rfl ?_); refine box_event ?hg (N := 7) ?hd (cs := #[.slice none 0 0, .bool false, .int .i64 0]) (t := 24) ?hr ?_; (case hd => rfl); (case hg => rfl); (case hr => first | (go_simp; done) | (go_simp; rfl)); intro gb133 hg w13 hbox hb; have n0_ := Aside0.mk (blk_below (g := gb130) (o := .cells #[.slice A0_0 l0_0.length c0_0, .bool a0_1, .int .i64 a0_2] 24 (0, 0)) (by (with_reducible repeat (first | refine blk_drewN ?_ _ | refine blk_drew ?_ | refine blk_alloc ?_ _)); exact BK130.out) hb); have n1_ := Aside0.mk (blk_below (g := gb131) (o := .cells #[.int .i64 a1_0, .int .i64 a1_1, .bool a1_2] 26 (0, 0)) (by (with_reducible repeat (first | refine blk_drewN ?_ _ | refine blk_drew ?_ | refine blk_alloc ?_ _)); exact BK131.out) hb); have n2_ := Aside0.mk (blk_below (g := gb132) (o := .cells #[.slice none 0 0, .bool false, .int .i64 0] 24 (0, 0)) (by (with_reducible repeat (first | refine blk_drewN ?_ _ | refine blk_drew ?_ | refine blk_alloc ?_ _)); exact BK132.out) hb); have n3_ := Aside0.mk (below_step (by repeat (first | (with_reducible first | exact HB.out | apply below_alloc | apply pw_below_drewN | apply below_drew1 | refine below_set ?_ GE130.out | refine below_set ?_ GE131.out | refine below_set ?_ GE132.out) | exact HB.out)) hb); have n4_ := Aside0.mk (hbox); have n5_ := Aside0.mk ((by rw [hg]; exact (below_size (by repeat (first | (with_reducible first | exact HB.out | apply below_alloc | apply pw_below_drewN | apply below_drew1 | refine below_set ?_ GE130.out | refine below_set ?_ GE131.out | refine below_set ?_ GE132.out) | exact HB.out))) : w.heap.size ≤ gb133)); have n6_ := Aside0.mk ((by rw [hg]; exact (below_size (by repeat (first | (with_reducible first | exact HB.out | apply below_alloc | apply pw_below_drewN | apply below_drew1 | refine below_set ?_ GE130.out | refine below_set ?_ GE131.out | refine below_set ?_ GE132.out) | exact HB.out))) : w.heap.size ≤ gb133)); have n7_ := Aside0.mk ((by rw [hg]; exact Nat.ne_of_lt (blk_lt (g := gb130) (o := .cells #[.slice A0_0 l0_0.length c0_0, .bool a0_1, .int .i64 a0_2] 24 (0, 0)) (by (with_reducible repeat (first | refine blk_drewN ?_ _ | refine blk_drew ?_ | refine blk_alloc ?_ _)); exact BK130.out)) : gb130 ≠ gb133)); have n8_ := Aside0.mk ((by rw [hg]; exact Nat.ne_of_gt (blk_lt (g := gb130) (o := .cells #[.slice A0_0 l0_0.length c0_0, .bool a0_1, .int .i64 a0_2] 24 (0, 0)) (by (with_reducible repeat (first | refine blk_drewN ?_ _ | refine blk_drew ?_ | refine blk_alloc ?_ _)); exact BK130.out)) : gb133 ≠ gb130)); have n9_ := Aside0.mk ((by rw [hg]; exact Nat.ne_of_lt (blk_lt (g := gb131) (o := .cells #[.int .i64 a1_0, .int .i64 a1_1, .bool a1_2] 26 (0, 0)) (by (with_reducible repeat (first | refine blk_drewN ?_ _ | refine blk_drew ?_ | refine blk_alloc ?_ _)); exact BK131.out)) : gb131 ≠ gb133)); have n10_ := Aside0.mk ((by rw [hg]; exact Nat.ne_of_gt (blk_lt (g := gb131) (o := .cells #[.int .i64 a1_0, .int .i64 a1_1, .bool a1_2] 26 (0, 0)) (by (with_reducible repeat (first | refine blk_drewN ?_ _ | refine blk_drew ?_ | refine blk_alloc ?_ _)); exact BK131.out)) : gb133 ≠ gb131)); have n11_ := Aside0.mk ((by rw [hg]; exact Nat.ne_of_lt (blk_lt (g := gb132) (o := .cells #[.slice none 0 0, .bool false, .int .i64 0] 24 (0, 0)) (by (with_reducible repeat (first | refine blk_drewN ?_ _ | refine blk_drew ?_ | refine blk_alloc ?_ _)); exact BK132.out)) : gb132 ≠ gb133)); have n12_ := Aside0.mk ((by rw [hg]; exact Nat.ne_of_gt (blk_lt (g := gb132) (o := .cells #[.slice none 0 0, .bool false, .int .i64 0] 24 (0, 0)) (by (with_reducible repeat (first | refine blk_drewN ?_ _ | refine blk_drew ?_ | refine blk_alloc ?_ _)); exact BK132.out)) : gb133 ≠ gb132)); clear BK130; clear BK131; clear BK132; clear HB; have BK130 := n0_; have BK131 := n1_; have BK132 := n2_; have HB := n3_; have BK133 := n4_; have GW133 := n5_; have GE133 := n6_; have NB130_133 := n7_; have NB133_130 := n8_; have NB131_133 := n9_; have NB133_131 := n10_; have NB132_133 := n11_; have NB133_132 := n12_; clear n0_ n1_ n2_ n3_ n4_ n5_ n6_ n7_ n8_ n9_ n10_ n11_ n12_; clear hb hbox hg; have hnb14 := NB133_130.out; have hnc14 := NB130_133.out; have hnb15 := NB133_131.out; have hnc15 := NB131_133.out; have hnb16 := NB133_132.out; have hnc16 := NB132_133.out; have hcz17_0 : w13.cell? ⟨gb133, 0, none⟩ = some (.slice none 0 0) := (blk_cell BK133.out 0).trans rfl; have hcz17_1 : w13.cell? ⟨gb133, 1, none⟩ = some (.bool false) := (blk_cell BK133.out 1).trans rfl; have hcz17_2 : w13.cell? ⟨gb133, 2, none⟩ = some (.int .i64 0) := (blk_cell BK133.out 2).trans rfl; have hfz17_0 := blk_frozen BK133.out 0; have hfz17_1 := blk_frozen BK133.out 1; have hfz17_2 := blk_frozen BK133.out 2))
      have n0_ : Aside0 ((((w13.setCell ⟨gb133, 0, none⟩ (.slice A0_0 l0_0.length c0_0)).setCell ⟨gb133, 1, none⟩ (.bool a0_1)).setCell ⟨gb133, 2, none⟩ (.int .i64 a0_2)).heap[gb130]? = some (.cells #[.slice A0_0 l0_0.length c0_0, .bool a0_1, .int .i64 a0_2] 24 (0, 0))) := ⟨by (with_reducible repeat (first | refine blk_drewN ?_ _ | refine blk_drew ?_ | refine blk_alloc ?_ _)); refine blk_far ?_ NB130_133.out _; (with_reducible repeat (first | refine blk_drewN ?_ _ | refine blk_drew ?_ | refine blk_alloc ?_ _)); refine blk_far ?_ NB130_133.out _; (with_reducible repeat (first | refine blk_drewN ?_ _ | refine blk_drew ?_ | refine blk_alloc ?_ _)); refine blk_far ?_ NB130_133.out _; (with_reducible repeat (first | refine blk_drewN ?_ _ | refine blk_drew ?_ | refine blk_alloc ?_ _)); exact BK130.out⟩
      have n1_ : Aside0 ((((w13.setCell ⟨gb133, 0, none⟩ (.slice A0_0 l0_0.length c0_0)).setCell ⟨gb133, 1, none⟩ (.bool a0_1)).setCell ⟨gb133, 2, none⟩ (.int .i64 a0_2)).heap[gb131]? = some (.cells #[.int .i64 a1_0, .int .i64 a1_1, .bool a1_2] 26 (0, 0))) := ⟨by (with_reducible repeat (first | refine blk_drewN ?_ _ | refine blk_drew ?_ | refine blk_alloc ?_ _)); refine blk_far ?_ NB131_133.out _; (with_reducible repeat (first | refine blk_drewN ?_ _ | refine blk_drew ?_ | refine blk_alloc ?_ _)); refine blk_far ?_ NB131_133.out _; (with_reducible repeat (first | refine blk_drewN ?_ _ | refine blk_drew ?_ | refine blk_alloc ?_ _)); refine blk_far ?_ NB131_133.out _; (with_reducible repeat (first | refine blk_drewN ?_ _ | refine blk_drew ?_ | refine blk_alloc ?_ _)); exact BK131.out⟩
      have n2_ : Aside0 ((((w13.setCell ⟨gb133, 0, none⟩ (.slice A0_0 l0_0.length c0_0)).setCell ⟨gb133, 1, none⟩ (.bool a0_1)).setCell ⟨gb133, 2, none⟩ (.int .i64 a0_2)).heap[gb132]? = some (.cells #[.slice none 0 0, .bool false, .int .i64 0] 24 (0, 0))) := ⟨by (with_reducible repeat (first | refine blk_drewN ?_ _ | refine blk_drew ?_ | refine blk_alloc ?_ _)); refine blk_far ?_ NB132_133.out _; (with_reducible repeat (first | refine blk_drewN ?_ _ | refine blk_drew ?_ | refine blk_alloc ?_ _)); refine blk_far ?_ NB132_133.out _; (with_reducible repeat (first | refine blk_drewN ?_ _ | refine blk_drew ?_ | refine blk_alloc ?_ _)); refine blk_far ?_ NB132_133.out _; (with_reducible repeat (first | refine blk_drewN ?_ _ | refine blk_drew ?_ | refine blk_alloc ?_ _)); exact BK132.out⟩
      have n3_ : Aside0 ((((w13.setCell ⟨gb133, 0, none⟩ (.slice A0_0 l0_0.length c0_0)).setCell ⟨gb133, 1, none⟩ (.bool a0_1)).setCell ⟨gb133, 2, none⟩ (.int .i64 a0_2)).heap[gb133]? = some (.cells #[.slice A0_0 l0_0.length c0_0, .bool a0_1, .int .i64 a0_2] 24 (0, 0))) := ⟨by (with_reducible repeat (first | refine blk_drewN ?_ _ | refine blk_drew ?_ | refine blk_alloc ?_ _)); refine blk_put (cs := #[.slice A0_0 l0_0.length c0_0, .bool a0_1, .int .i64 0]) ?_ 2 _ rfl; (with_reducible repeat (first | refine blk_drewN ?_ _ | refine blk_drew ?_ | refine blk_alloc ?_ _)); refine blk_put (cs := #[.slice A0_0 l0_0.length c0_0, .bool false, .int .i64 0]) ?_ 1 _ rfl; (with_reducible repeat (first | refine blk_drewN ?_ _ | refine blk_drew ?_ | refine blk_alloc ?_ _)); refine blk_put (cs := #[.slice none 0 0, .bool false, .int .i64 0]) ?_ 0 _ rfl; (with_reducible repeat (first | refine blk_drewN ?_ _ | refine blk_drew ?_ | refine blk_alloc ?_ _)); exact BK133.out⟩
      have n4_ : Aside0 (Below w.heap.size w (((w13.setCell ⟨gb133, 0, none⟩ (.slice A0_0 l0_0.length c0_0)).setCell ⟨gb133, 1, none⟩ (.bool a0_1)).setCell ⟨gb133, 2, none⟩ (.int .i64 a0_2))) := ⟨by repeat (first | (with_reducible first | exact HB.out | apply below_alloc | apply pw_below_drewN | apply below_drew1 | refine below_set ?_ GE130.out | refine below_set ?_ GE131.out | refine below_set ?_ GE132.out | refine below_set ?_ GE133.out) | exact HB.out)⟩
      (try clear BK130)
      (try clear BK131)
      (try clear BK132)
      (try clear BK133)
      (try clear HB)
      generalize (((w13.setCell ⟨gb133, 0, none⟩ (.slice A0_0 l0_0.length c0_0)).setCell ⟨gb133, 1, none⟩ (.bool a0_1)).setCell ⟨gb133, 2, none⟩ (.int .i64 a0_2)) = w18 at n0_ n1_ n2_ n3_ n4_ ⊢
      have BK130 := n0_
      have BK131 := n1_
      have BK132 := n2_
      have BK133 := n3_
      have HB := n4_
      clear n0_ n1_ n2_ n3_ n4_
      have n0_ := Aside0.mk (blk_drew BK130.out)
      have n1_ := Aside0.mk (blk_drew BK131.out)
      have n2_ := Aside0.mk (blk_drew BK132.out)
      have n3_ := Aside0.mk (blk_drew BK133.out)
      have n4_ := Aside0.mk (below_drew1 HB.out)
      clear BK130
      clear BK131
      clear BK132
      clear BK133
      clear HB
      have BK130 := n0_
      have BK131 := n1_
      have BK132 := n2_
      have BK133 := n3_
      have HB := n4_
      clear n0_ n1_ n2_ n3_ n4_
      refine start_ (n := 8) (S := fun w' => w'.cell? ⟨gb130, 0, none⟩ = some (.slice A0_0 l0_0.length c0_0) ∧ w'.cell? ⟨gb130, 1, none⟩ = some (.bool a0_1) ∧ w'.cell? ⟨gb130, 2, none⟩ = some (.int .i64 a0_2) ∧ w'.cell? ⟨gb131, 0, none⟩ = some (.int .i64 a1_0) ∧ w'.cell? ⟨gb131, 1, none⟩ = some (.int .i64 a1_1) ∧ w'.cell? ⟨gb131, 2, none⟩ = some (.bool a1_2)) (ds := []) #[false, false, false, false, false, false, false, false] (by kernel_rfl) rfl rfl ⟨(blk_cell BK130.out 0).trans rfl, (blk_cell BK130.out 1).trans rfl, (blk_cell BK130.out 2).trans rfl, (blk_cell BK131.out 0).trans rfl, (blk_cell BK131.out 1).trans rfl, (blk_cell BK131.out 2).trans rfl⟩ (fun hHeld => ?_); refine with_tabW leap_Add.tab3 leap_Add.bits3 (fun HT_ HW_ => ?_)
      generalize w18.drew = w19 at BK130 BK131 BK132 BK133 HB hHeld ⊢
      refine pure_ (i := 0) (N := some 14) (v := ?_) (a' := ?_) #[true, false, false, false, false, false, false, false] rfl rfl (any_of HT_.out (by kernel_rfl)) (fun _ _ _ h => h) (Or.inl ⟨by rfl, ?_⟩) ?_ ?_
      rotate_left
      · intro w'
        go_simp
        with_reducible rfl
      rotate_left
      · simp only [Act.put, List.setIfInBounds_toArray, List.set_cons_zero, List.set_cons_succ, i64_w, i32_w]
        rfl
      refine take_ (i := 1) (N := some 15) (v := ?_) (a' := ?_) #[true, true, false, false, false, false, false, false] rfl rfl (take_ofW HT_.out HW_.out (by kernel_rfl)) (fun _ _ _ h => h) (Or.inl ⟨by rfl, ?_⟩) hHeld ?_ ?_
      rotate_left
      · rintro w' ⟨s0, s1, s2, s3, s4, s5⟩
        go_simp
        with_reducible rfl
      rotate_left
      · simp only [Act.put, List.setIfInBounds_toArray, List.set_cons_zero, List.set_cons_succ, i64_w, i32_w]
        rfl
      refine take_ (i := 3) (N := some 17) (v := ?_) (a' := ?_) #[true, true, false, true, false, false, false, false] rfl rfl (take_ofW HT_.out HW_.out (by kernel_rfl)) (fun _ _ _ h => h) (Or.inl ⟨by rfl, ?_⟩) hHeld ?_ ?_
      rotate_left
      · rintro w' ⟨s0, s1, s2, s3, s4, s5⟩
        go_simp
        with_reducible rfl
      rotate_left
      · simp only [Act.put, List.setIfInBounds_toArray, List.set_cons_zero, List.set_cons_succ, i64_w, i32_w]
        rfl
      refine join_ (σ := Value × Value) 3 #[true, true, true, true, true, false, false, false] (fun s_ => [(16, s_.1), (18, s_.2)]) (fun s_ w' => (w'.cell? ⟨gb130, 0, none⟩ = some (.slice A0_0 l0_0.length c0_0) ∧ w'.cell? ⟨gb130, 1, none⟩ = some (.bool a0_1) ∧ w'.cell? ⟨gb130, 2, none⟩ = some (.int .i64 a0_2) ∧ w'.cell? ⟨gb131, 0, none⟩ = some (.int .i64 a1_0) ∧ w'.cell? ⟨gb131, 1, none⟩ = some (.int .i64 a1_1) ∧ w'.cell? ⟨gb131, 2, none⟩ = some (.bool a1_2)) ∧ (Kd.R k26 26 w' w.heap.size (fun k_ => (w.heap.size ≤ k_) ∧ some k_ ≠ (s_.2 : Value).ownBlock ∧ k_ ≠ gb131) s_.1 t134) ∧ (Kd.R k26 26 w' w.heap.size (fun k_ => (w.heap.size ≤ k_) ∧ some k_ ≠ (s_.1 : Value).ownBlock ∧ k_ ≠ gb131) s_.2 y137) ∧ (w'.heap[gb130]? = some (.cells #[.slice A0_0 l0_0.length c0_0, .bool a0_1, .int .i64 a0_2] 24 (0, 0))) ∧ (w'.heap[gb131]? = some (.cells #[.int .i64 a1_0, .int .i64 a1_1, .bool a1_2] 26 (0, 0))) ∧ (w'.heap[gb132]? = some (.cells #[.slice none 0 0, .bool false, .int .i64 0] 24 (0, 0))) ∧ (w'.heap[gb133]? = some (.cells #[.slice A0_0 l0_0.length c0_0, .bool a0_1, .int .i64 a0_2] 24 (0, 0))) ∧ (Below w.heap.size w w')) ?_ ?_
      rotate_left
      · intro hCont
        refine two_ (i := 2) (j := 4) (Ni := some 16) (Nj := some 18) #[true, true, true, true, false, false, false, false] #[true, true, false, true, true, false, false, false] rfl rfl rfl rfl (two_of HT_.out (by kernel_rfl)) (by decide) (by decide) (fun K hK => ?_) (fun K hK => ?_)
        · skip
          refine goes_ Try.func31 (by kernel_rfl) rfl #[.slice A0_0 l0_0.length c0_0] (by rfl) rfl rfl (by (try simp only [List.map_toArray, List.map_cons, List.map_nil]); first | done | rfl | (simp only [List.length_drop, List.length_take]; rfl)) ?_
          with_reducible refine (api_Leap_31.calls _ _ l0_0 t134 _ ?side1 ?side2 A3.out).mono ?_
          (case side1 => repeat (first | exact (Kd.C_below HR0_0.out HB.out) | (with_reducible refine Kd.C_alloc ?_ _) | (with_reducible refine Kd.C_drewN ?_ _) | (with_reducible refine Kd.C_drew ?_)))
          (case side2 => exact HC0_0.out)
          rintro e w20 ⟨v135, rfl, ho0, hb⟩
          refine ⟨_, rfl, ?_⟩
          have n0_ := Aside0.mk (Kd.R_lower (Kd.R_newB (Kd.R_newM (M := fun k_ => (w.heap.size ≤ k_)) ho0 (below_size (by repeat (first | (with_reducible first | exact HB.out | apply below_alloc | apply pw_below_drewN | apply below_drew1 | refine below_set ?_ GE130.out | refine below_set ?_ GE131.out | refine below_set ?_ GE132.out | refine below_set ?_ GE133.out) | exact HB.out))) (fun k_ h_ => h_)) (g := gb131) (o := .cells #[.int .i64 a1_0, .int .i64 a1_1, .bool a1_2] 26 (0, 0)) (by (with_reducible repeat (first | refine blk_drewN ?_ _ | refine blk_drew ?_ | refine blk_alloc ?_ _)); exact BK131.out)) (below_size (by repeat (first | (with_reducible first | exact HB.out | apply below_alloc | apply pw_below_drewN | apply below_drew1 | refine below_set ?_ GE130.out | refine below_set ?_ GE131.out | refine below_set ?_ GE132.out | refine below_set ?_ GE133.out) | exact HB.out))))
          have n1_ := Aside0.mk (blk_below (g := gb130) (o := .cells #[.slice A0_0 l0_0.length c0_0, .bool a0_1, .int .i64 a0_2] 24 (0, 0)) (by (with_reducible repeat (first | refine blk_drewN ?_ _ | refine blk_drew ?_ | refine blk_alloc ?_ _)); exact BK130.out) hb)
          have n2_ := Aside0.mk (blk_below (g := gb131) (o := .cells #[.int .i64 a1_0, .int .i64 a1_1, .bool a1_2] 26 (0, 0)) (by (with_reducible repeat (first | refine blk_drewN ?_ _ | refine blk_drew ?_ | refine blk_alloc ?_ _)); exact BK131.out) hb)
          have n3_ := Aside0.mk (blk_below (g := gb132) (o := .cells #[.slice none 0 0, .bool false, .int .i64 0] 24 (0, 0)) (by (with_reducible repeat (first | refine blk_drewN ?_ _ | refine blk_drew ?_ | refine blk_alloc ?_ _)); exact BK132.out) hb)
          have n4_ := Aside0.mk (blk_below (g := gb133) (o := .cells #[.slice A0_0 l0_0.length c0_0, .bool a0_1, .int .i64 a0_2] 24 (0, 0)) (by (with_reducible repeat (first | refine blk_drewN ?_ _ | refine blk_drew ?_ | refine blk_alloc ?_ _)); exact BK133.out) hb)
          have n5_ := Aside0.mk (below_step (by repeat (first | (with_reducible first | exact HB.out | apply below_alloc | apply pw_below_drewN | apply below_drew1 | refine below_set ?_ GE130.out | refine below_set ?_ GE131.out | refine below_set ?_ GE132.out | refine below_set ?_ GE133.out) | exact HB.out)) hb)
          clear BK130
          clear BK131
          clear BK132
          clear BK133
          clear HB
          have HO136 := n0_
          have BK130 := n1_
          have BK131 := n2_
          have BK132 := n3_
          have BK133 := n4_
          have HB := n5_
          clear n0_ n1_ n2_ n3_ n4_ n5_
          (try clear hb)
          (try clear hb2)
          (try clear hk)
          (try clear hi)
          (try clear ho0)
          refine hK.out _ _ ⟨(blk_cell BK130.out 0).trans rfl, (blk_cell BK130.out 1).trans rfl, (blk_cell BK130.out 2).trans rfl, (blk_cell BK131.out 0).trans rfl, (blk_cell BK131.out 1).trans rfl, (blk_cell BK131.out 2).trans rfl⟩ (fun hHeld => ?_)
          clear hK K
          refine norm_ (a' := ?_) ?_ ?_
          rotate_left
          · show Act.put _ (some 16) _ = _
            simp only [Act.put, List.setIfInBounds_toArray, List.set_cons_zero, List.set_cons_succ, i64_w, i32_w]
            rfl
          refine one_ (i := 4) (N := some 18) #[true, true, true, true, true, false, false, false] rfl rfl (one_of HT_.out (by kernel_rfl)) (by decide) (fun K hK => ?_)
          refine Kd.R_lit_step k26 _ 26 ?hg (N := 18) ?hd (xs := ([(⟨a1_0, a1_1, a1_2⟩ : S26)] : List (S26))) (inner := [.int .i64 a1_0, .int .i64 a1_1, .bool a1_2]) (ok := fun _ => True) (okp := fun _ => True) ?hr ?hp (fun _ hk => hk) trivial (Below.refl _ _) (Nat.le_refl _) (by simp) ?_; (case hd => rfl); (case hg => rfl); (case hr => first | (go_simp; done) | (go_simp; rfl)); (case hp => exact (Reps.c3 (show Kd.M k26 _ _ _ (⟨a1_0, a1_1, a1_2⟩ : S26) [.int .i64 a1_0, .int .i64 a1_1, .bool a1_2] from (k26_mkM _ _ _ (⟨a1_0, a1_1, a1_2⟩ : S26) )) (Reps.none _ _)))
          intro v138 w21 ho22 hb hg_ hnew_
          clear hg_ hnew_
          (first | rw [← Ny137.out] at ho22 | (simp only [Int.reduceToNat] at ho22; rw [← Ny137.out] at ho22))
          have n0_ := Aside0.mk (Kd.R_elder' (by (with_reducible repeat (first | apply Kd.R_alloc | apply Kd.R_drewN | apply Kd.R_drew)); exact HO136.out) (Kd.R_base ho22) hb)
          have n1_ := Aside0.mk (Kd.R_lower (Kd.R_newB (Kd.R_new' (Kd.R_newM (M := fun k_ => (w.heap.size ≤ k_)) ho22 (below_size (by repeat (first | (with_reducible first | exact HB.out | apply below_alloc | apply pw_below_drewN | apply below_drew1 | refine below_set ?_ GE130.out | refine below_set ?_ GE131.out | refine below_set ?_ GE132.out | refine below_set ?_ GE133.out) | exact HB.out))) (fun k_ h_ => h_)) (Kd.R_lt (by (with_reducible repeat (first | apply Kd.R_alloc | apply Kd.R_drewN | apply Kd.R_drew)); exact HO136.out))) (g := gb131) (o := .cells #[.int .i64 a1_0, .int .i64 a1_1, .bool a1_2] 26 (0, 0)) (by (with_reducible repeat (first | refine blk_drewN ?_ _ | refine blk_drew ?_ | refine blk_alloc ?_ _)); exact BK131.out)) (below_size (by repeat (first | (with_reducible first | exact HB.out | apply below_alloc | apply pw_below_drewN | apply below_drew1 | refine below_set ?_ GE130.out | refine below_set ?_ GE131.out | refine below_set ?_ GE132.out | refine below_set ?_ GE133.out) | exact HB.out))))
          have n2_ := Aside0.mk (blk_below (g := gb130) (o := .cells #[.slice A0_0 l0_0.length c0_0, .bool a0_1, .int .i64 a0_2] 24 (0, 0)) (by (with_reducible repeat (first | refine blk_drewN ?_ _ | refine blk_drew ?_ | refine blk_alloc ?_ _)); exact BK130.out) hb)
          have n3_ := Aside0.mk (blk_below (g := gb131) (o := .cells #[.int .i64 a1_0, .int .i64 a1_1, .bool a1_2] 26 (0, 0)) (by (with_reducible repeat (first | refine blk_drewN ?_ _ | refine blk_drew ?_ | refine blk_alloc ?_ _)); exact BK131.out) hb)
          have n4_ := Aside0.mk (blk_below (g := gb132) (o := .cells #[.slice none 0 0, .bool false, .int .i64 0] 24 (0, 0)) (by (with_reducible repeat (first | refine blk_drewN ?_ _ | refine blk_drew ?_ | refine blk_alloc ?_ _)); exact BK132.out) hb)
          have n5_ := Aside0.mk (blk_below (g := gb133) (o := .cells #[.slice A0_0 l0_0.length c0_0, .bool a0_1, .int .i64 a0_2] 24 (0, 0)) (by (with_reducible repeat (first | refine blk_drewN ?_ _ | refine blk_drew ?_ | refine blk_alloc ?_ _)); exact BK133.out) hb)
          have n6_ := Aside0.mk (below_step (by repeat (first | (with_reducible first | exact HB.out | apply below_alloc | apply pw_below_drewN | apply below_drew1 | refine below_set ?_ GE130.out | refine below_set ?_ GE131.out | refine below_set ?_ GE132.out | refine below_set ?_ GE133.out) | exact HB.out)) hb)
          clear HO136
          clear BK130
          clear BK131
          clear BK132
          clear BK133
          clear HB
          have HO136 := n0_
          have HO139 := n1_
          have BK130 := n2_
          have BK131 := n3_
          have BK132 := n4_
          have BK133 := n5_
          have HB := n6_
          clear n0_ n1_ n2_ n3_ n4_ n5_ n6_
          clear hb ho22
          refine hK.out _ _ ⟨(blk_cell BK130.out 0).trans rfl, (blk_cell BK130.out 1).trans rfl, (blk_cell BK130.out 2).trans rfl, (blk_cell BK131.out 0).trans rfl, (blk_cell BK131.out 1).trans rfl, (blk_cell BK131.out 2).trans rfl⟩ (fun hHeld => ?_)
          clear hK K
          refine norm_ (a' := ?_) ?_ ?_
          rotate_left
          · show Act.put _ (some 18) _ = _
            simp only [Act.put, List.setIfInBounds_toArray, List.set_cons_zero, List.set_cons_succ, i64_w, i32_w]
            rfl
          exact norm_ (by simp only [putAll, Act.put, List.setIfInBounds_toArray, List.set_cons_zero, List.set_cons_succ]) (hCont (v135, v138) _ ⟨hHeld, (by (with_reducible repeat (first | apply Kd.R_alloc | apply Kd.R_drewN | apply Kd.R_drew)); exact Kd.R_mono HO136.out (fun _ hk => ⟨hk.1.1.1, ⟨hk.2, hk.1.2⟩⟩)), (by (with_reducible repeat (first | apply Kd.R_alloc | apply Kd.R_drewN | apply Kd.R_drew)); exact Kd.R_mono HO139.out (fun _ hk => ⟨hk.1.1.1, ⟨hk.1.2, hk.2⟩⟩)), (by (with_reducible repeat (first | refine blk_drewN ?_ _ | refine blk_drew ?_ | refine blk_alloc ?_ _)); exact BK130.out), (by (with_reducible repeat (first | refine blk_drewN ?_ _ | refine blk_drew ?_ | refine blk_alloc ?_ _)); exact BK131.out), (by (with_reducible repeat (first | refine blk_drewN ?_ _ | refine blk_drew ?_ | refine blk_alloc ?_ _)); exact BK132.out), (by (with_reducible repeat (first | refine blk_drewN ?_ _ | refine blk_drew ?_ | refine blk_alloc ?_ _)); exact BK133.out), (by repeat (first | (with_reducible first | exact HB.out | apply below_alloc | apply pw_below_drewN | apply below_drew1 | refine below_set ?_ GE130.out | refine below_set ?_ GE131.out | refine below_set ?_ GE132.out | refine below_set ?_ GE133.out) | exact HB.out))⟩)
        · skip
          refine Kd.R_lit_step k26 _ 26 ?hg (N := 18) ?hd (xs := ([(⟨a1_0, a1_1, a1_2⟩ : S26)] : List (S26))) (inner := [.int .i64 a1_0, .int .i64 a1_1, .bool a1_2]) (ok := fun _ => True) (okp := fun _ => True) ?hr ?hp (fun _ hk => hk) trivial (Below.refl _ _) (Nat.le_refl _) (by simp) ?_; (case hd => rfl); (case hg => rfl); (case hr => first | (go_simp; done) | (go_simp; rfl)); (case hp => exact (Reps.c3 (show Kd.M k26 _ _ _ (⟨a1_0, a1_1, a1_2⟩ : S26) [.int .i64 a1_0, .int .i64 a1_1, .bool a1_2] from (k26_mkM _ _ _ (⟨a1_0, a1_1, a1_2⟩ : S26) )) (Reps.none _ _)))
          intro v138 w20 ho21 hb hg_ hnew_
          clear hg_ hnew_
          (first | rw [← Ny137.out] at ho21 | (simp only [Int.reduceToNat] at ho21; rw [← Ny137.out] at ho21))
          have n0_ := Aside0.mk (Kd.R_lower (Kd.R_newB (Kd.R_newM (M := fun k_ => (w.heap.size ≤ k_)) ho21 (below_size (by repeat (first | (with_reducible first | exact HB.out | apply below_alloc | apply pw_below_drewN | apply below_drew1 | refine below_set ?_ GE130.out | refine below_set ?_ GE131.out | refine below_set ?_ GE132.out | refine below_set ?_ GE133.out) | exact HB.out))) (fun k_ h_ => h_)) (g := gb131) (o := .cells #[.int .i64 a1_0, .int .i64 a1_1, .bool a1_2] 26 (0, 0)) (by (with_reducible repeat (first | refine blk_drewN ?_ _ | refine blk_drew ?_ | refine blk_alloc ?_ _)); exact BK131.out)) (below_size (by repeat (first | (with_reducible first | exact HB.out | apply below_alloc | apply pw_below_drewN | apply below_drew1 | refine below_set ?_ GE130.out | refine below_set ?_ GE131.out | refine below_set ?_ GE132.out | refine below_set ?_ GE133.out) | exact HB.out))))
          have n1_ := Aside0.mk (blk_below (g := gb130) (o := .cells #[.slice A0_0 l0_0.length c0_0, .bool a0_1, .int .i64 a0_2] 24 (0, 0)) (by (with_reducible repeat (first | refine blk_drewN ?_ _ | refine blk_drew ?_ | refine blk_alloc ?_ _)); exact BK130.out) hb)
          have n2_ := Aside0.mk (blk_below (g := gb131) (o := .cells #[.int .i64 a1_0, .int .i64 a1_1, .bool a1_2] 26 (0, 0)) (by (with_reducible repeat (first | refine blk_drewN ?_ _ | refine blk_drew ?_ | refine blk_alloc ?_ _)); exact BK131.out) hb)
          have n3_ := Aside0.mk (blk_below (g := gb132) (o := .cells #[.slice none 0 0, .bool false, .int .i64 0] 24 (0, 0)) (by (with_reducible repeat (first | refine blk_drewN ?_ _ | refine blk_drew ?_ | refine blk_alloc ?_ _)); exact BK132.out) hb)
          have n4_ := Aside0.mk (blk_below (g := gb133) (o := .cells #[.slice A0_0 l0_0.length c0_0, .bool a0_1, .int .i64 a0_2] 24 (0, 0)) (by (with_reducible repeat (first | refine blk_drewN ?_ _ | refine blk_drew ?_ | refine blk_alloc ?_ _)); exact BK133.out) hb)
          have n5_ := Aside0.mk (below_step (by repeat (first | (with_reducible first | exact HB.out | apply below_alloc | apply pw_below_drewN | apply below_drew1 | refine below_set ?_ GE130.out | refine below_set ?_ GE131.out | refine below_set ?_ GE132.out | refine below_set ?_ GE133.out) | exact HB.out)) hb)
          clear BK130
          clear BK131
          clear BK132
          clear BK133
          clear HB
          have HO139 := n0_
          have BK130 := n1_
          have BK131 := n2_
          have BK132 := n3_
          have BK133 := n4_
          have HB := n5_
          clear n0_ n1_ n2_ n3_ n4_ n5_
          clear hb ho21
          refine hK.out _ _ ⟨(blk_cell BK130.out 0).trans rfl, (blk_cell BK130.out 1).trans rfl, (blk_cell BK130.out 2).trans rfl, (blk_cell BK131.out 0).trans rfl, (blk_cell BK131.out 1).trans rfl, (blk_cell BK131.out 2).trans rfl⟩ (fun hHeld => ?_)
          clear hK K
          refine norm_ (a' := ?_) ?_ ?_
          rotate_left
          · show Act.put _ (some 18) _ = _
            simp only [Act.put, List.setIfInBounds_toArray, List.set_cons_zero, List.set_cons_succ, i64_w, i32_w]
            rfl
          refine one_ (i := 2) (N := some 16) #[true, true, true, true, true, false, false, false] rfl rfl (one_of HT_.out (by kernel_rfl)) (by decide) (fun K hK => ?_)
          refine goes_ Try.func31 (by kernel_rfl) rfl #[.slice A0_0 l0_0.length c0_0] (by rfl) rfl rfl (by (try simp only [List.map_toArray, List.map_cons, List.map_nil]); first | done | rfl | (simp only [List.length_drop, List.length_take]; rfl)) ?_
          with_reducible refine (api_Leap_31.calls _ _ l0_0 t134 _ ?side1 ?side2 A3.out).mono ?_
          (case side1 => repeat (first | exact (Kd.C_below HR0_0.out HB.out) | (with_reducible refine Kd.C_alloc ?_ _) | (with_reducible refine Kd.C_drewN ?_ _) | (with_reducible refine Kd.C_drew ?_)))
          (case side2 => exact HC0_0.out)
          rintro e w22 ⟨v135, rfl, ho0, hb⟩
          refine ⟨_, rfl, ?_⟩
          have n0_ := Aside0.mk (Kd.R_elder' (by (with_reducible repeat (first | apply Kd.R_alloc | apply Kd.R_drewN | apply Kd.R_drew)); exact HO139.out) (Kd.R_base ho0) hb)
          have n1_ := Aside0.mk (Kd.R_lower (Kd.R_newB (Kd.R_new' (Kd.R_newM (M := fun k_ => (w.heap.size ≤ k_)) ho0 (below_size (by repeat (first | (with_reducible first | exact HB.out | apply below_alloc | apply pw_below_drewN | apply below_drew1 | refine below_set ?_ GE130.out | refine below_set ?_ GE131.out | refine below_set ?_ GE132.out | refine below_set ?_ GE133.out) | exact HB.out))) (fun k_ h_ => h_)) (Kd.R_lt (by (with_reducible repeat (first | apply Kd.R_alloc | apply Kd.R_drewN | apply Kd.R_drew)); exact HO139.out))) (g := gb131) (o := .cells #[.int .i64 a1_0, .int .i64 a1_1, .bool a1_2] 26 (0, 0)) (by (with_reducible repeat (first | refine blk_drewN ?_ _ | refine blk_drew ?_ | refine blk_alloc ?_ _)); exact BK131.out)) (below_size (by repeat (first | (with_reducible first | exact HB.out | apply below_alloc | apply pw_below_drewN | apply below_drew1 | refine below_set ?_ GE130.out | refine below_set ?_ GE131.out | refine below_set ?_ GE132.out | refine below_set ?_ GE133.out) | exact HB.out))))
          have n2_ := Aside0.mk (blk_below (g := gb130) (o := .cells #[.slice A0_0 l0_0.length c0_0, .bool a0_1, .int .i64 a0_2] 24 (0, 0)) (by (with_reducible repeat (first | refine blk_drewN ?_ _ | refine blk_drew ?_ | refine blk_alloc ?_ _)); exact BK130.out) hb)
          have n3_ := Aside0.mk (blk_below (g := gb131) (o := .cells #[.int .i64 a1_0, .int .i64 a1_1, .bool a1_2] 26 (0, 0)) (by (with_reducible repeat (first | refine blk_drewN ?_ _ | refine blk_drew ?_ | refine blk_alloc ?_ _)); exact BK131.out) hb)
          have n4_ := Aside0.mk (blk_below (g := gb132) (o := .cells #[.slice none 0 0, .bool false, .int .i64 0] 24 (0, 0)) (by (with_reducible repeat (first | refine blk_drewN ?_ _ | refine blk_drew ?_ | refine blk_alloc ?_ _)); exact BK132.out) hb)
          have n5_ := Aside0.mk (blk_below (g := gb133) (o := .cells #[.slice A0_0 l0_0.length c0_0, .bool a0_1, .int .i64 a0_2] 24 (0, 0)) (by (with_reducible repeat (first | refine blk_drewN ?_ _ | refine blk_drew ?_ | refine blk_alloc ?_ _)); exact BK133.out) hb)
          have n6_ := Aside0.mk (below_step (by repeat (first | (with_reducible first | exact HB.out | apply below_alloc | apply pw_below_drewN | apply below_drew1 | refine below_set ?_ GE130.out | refine below_set ?_ GE131.out | refine below_set ?_ GE132.out | refine below_set ?_ GE133.out) | exact HB.out)) hb)
          clear HO139
          clear BK130
          clear BK131
          clear BK132
          clear BK133
          clear HB
          have HO139 := n0_
          have HO136 := n1_
          have BK130 := n2_
          have BK131 := n3_
          have BK132 := n4_
          have BK133 := n5_
          have HB := n6_
          clear n0_ n1_ n2_ n3_ n4_ n5_ n6_
          (try clear hb)
          (try clear hb2)
          (try clear hk)
          (try clear hi)
          (try clear ho0)
          refine hK.out _ _ ⟨(blk_cell BK130.out 0).trans rfl, (blk_cell BK130.out 1).trans rfl, (blk_cell BK130.out 2).trans rfl, (blk_cell BK131.out 0).trans rfl, (blk_cell BK131.out 1).trans rfl, (blk_cell BK131.out 2).trans rfl⟩ (fun hHeld => ?_)
          clear hK K
          refine norm_ (a' := ?_) ?_ ?_
          rotate_left
          · show Act.put _ (some 16) _ = _
            simp only [Act.put, List.setIfInBounds_toArray, List.set_cons_zero, List.set_cons_succ, i64_w, i32_w]
            rfl
          exact norm_ (by simp only [putAll, Act.put, List.setIfInBounds_toArray, List.set_cons_zero, List.set_cons_succ]) (hCont (v135, v138) _ ⟨hHeld, (by (with_reducible repeat (first | apply Kd.R_alloc | apply Kd.R_drewN | apply Kd.R_drew)); exact Kd.R_mono HO136.out (fun _ hk => ⟨hk.1.1.1, ⟨hk.1.2, hk.2⟩⟩)), (by (with_reducible repeat (first | apply Kd.R_alloc | apply Kd.R_drewN | apply Kd.R_drew)); exact Kd.R_mono HO139.out (fun _ hk => ⟨hk.1.1.1, ⟨hk.2, hk.1.2⟩⟩)), (by (with_reducible repeat (first | refine blk_drewN ?_ _ | refine blk_drew ?_ | refine blk_alloc ?_ _)); exact BK130.out), (by (with_reducible repeat (first | refine blk_drewN ?_ _ | refine blk_drew ?_ | refine blk_alloc ?_ _)); exact BK131.out), (by (with_reducible repeat (first | refine blk_drewN ?_ _ | refine blk_drew ?_ | refine blk_alloc ?_ _)); exact BK132.out), (by (with_reducible repeat (first | refine blk_drewN ?_ _ | refine blk_drew ?_ | refine blk_alloc ?_ _)); exact BK133.out), (by repeat (first | (with_reducible first | exact HB.out | apply below_alloc | apply pw_below_drewN | apply below_drew1 | refine below_set ?_ GE130.out | refine below_set ?_ GE131.out | refine below_set ?_ GE132.out | refine below_set ?_ GE133.out) | exact HB.out))⟩)
      rintro ⟨v135, v138⟩ w23 ⟨hS_, h0_, h1_, h2_, h3_, h4_, h5_, h6_⟩
      have n0_ : Aside0 (Kd.R k26 26 w23 w.heap.size (fun k_ => (w.heap.size ≤ k_) ∧ some k_ ≠ (v138 : Value).ownBlock ∧ k_ ≠ gb131) v135 t134) := ⟨h0_⟩
      have n1_ : Aside0 (Kd.R k26 26 w23 w.heap.size (fun k_ => (w.heap.size ≤ k_) ∧ some k_ ≠ (v135 : Value).ownBlock ∧ k_ ≠ gb131) v138 y137) := ⟨h1_⟩
      have n2_ : Aside0 (w23.heap[gb130]? = some (.cells #[.slice A0_0 l0_0.length c0_0, .bool a0_1, .int .i64 a0_2] 24 (0, 0))) := ⟨h2_⟩
      have n3_ : Aside0 (w23.heap[gb131]? = some (.cells #[.int .i64 a1_0, .int .i64 a1_1, .bool a1_2] 26 (0, 0))) := ⟨h3_⟩
      have n4_ : Aside0 (w23.heap[gb132]? = some (.cells #[.slice none 0 0, .bool false, .int .i64 0] 24 (0, 0))) := ⟨h4_⟩
      have n5_ : Aside0 (w23.heap[gb133]? = some (.cells #[.slice A0_0 l0_0.length c0_0, .bool a0_1, .int .i64 a0_2] 24 (0, 0))) := ⟨h5_⟩
      have n6_ : Aside0 (Below w.heap.size w w23) := ⟨h6_⟩
      clear BK130
      clear BK131
      clear BK132
      clear BK133
      clear HB
      clear h0_ h1_ h2_ h3_ h4_ h5_ h6_
      have HO136 := n0_
      have HO139 := n1_
      have BK130 := n2_
      have BK131 := n3_
      have BK132 := n4_
      have BK133 := n5_
      have HB := n6_
      clear n0_ n1_ n2_ n3_ n4_ n5_ n6_
      have hHeld : w23.cell? ⟨gb130, 0, none⟩ = some (.slice A0_0 l0_0.length c0_0) ∧ w23.cell? ⟨gb130, 1, none⟩ = some (.bool a0_1) ∧ w23.cell? ⟨gb130, 2, none⟩ = some (.int .i64 a0_2) ∧ w23.cell? ⟨gb131, 0, none⟩ = some (.int .i64 a1_0) ∧ w23.cell? ⟨gb131, 1, none⟩ = some (.int .i64 a1_1) ∧ w23.cell? ⟨gb131, 2, none⟩ = some (.bool a1_2) := hS_
      obtain ⟨Ao25, co25, eo25⟩ := Kd.R_slice HO139.out
      (first | subst eo25 | (injection eo25 with f1_ f2_ f3_; have f4_ := f1_.symm; have f5_ := f3_.symm; clear f1_ f2_ f3_; subst f4_; subst f5_))
      refine norm_ (a' := ?_) ?_ ?_
      rotate_left
      · simp only [putAll, Act.put, List.setIfInBounds_toArray, List.set_cons_zero, List.set_cons_succ]
        rfl
      refine one_ (i := 5) (N := some 19) #[true, true, true, true, true, true, false, false] rfl rfl (one_of HT_.out (by kernel_rfl)) (by decide) (fun K hK => ?_)
      refine Kd.R_append_rows_step k26 (w0 := w) w.heap.size (by rfl) (.tmp 16) (.tmp 18) 22 26 (.agg #[(.int .i64 0), (.int .i64 0), (.bool false)]) 24 rfl Try.underlying22 info26 rfl (by decide) (by omega) v135 t134 y137 _ _ _ (fun k_ => (w.heap.size ≤ k_) ∧ some k_ ≠ (.slice Ao25 y137.length co25 : Value).ownBlock ∧ k_ ≠ gb131) (fun _ => False) rfl rfl ?aO ?aR (fun _ _ h => h) (fun _ h => h.elim) ?aF ?aB ?aS ?aL ?_
      (case aR => repeat (first | exact (Kd.R_reads' HO139.out).2.2 | (with_reducible refine Kd.C_alloc ?_ _) | (with_reducible refine Kd.C_drewN ?_ _) | (with_reducible refine Kd.C_drew ?_)))
      (case aB => exact (by repeat (first | (with_reducible first | exact HB.out | apply below_alloc | apply pw_below_drewN | apply below_drew1 | refine below_set ?_ GE130.out | refine below_set ?_ GE131.out | refine below_set ?_ GE132.out | refine below_set ?_ GE133.out) | exact HB.out)))
      (case aF => exact (fun k_ hk => ⟨(Nat.le_trans (below_size (by repeat (first | (with_reducible first | exact HB.out | apply below_alloc | apply pw_below_drewN | apply below_drew1 | refine below_set ?_ GE130.out | refine below_set ?_ GE131.out | refine below_set ?_ GE132.out | refine below_set ?_ GE133.out) | exact HB.out))) hk), Kd.fresh' (Kd.R_lt (by (with_reducible repeat (first | apply Kd.R_alloc | apply Kd.R_drewN | apply Kd.R_drew)); exact HO139.out)) k_ hk, Kd.freshB (g := gb131) (o := .cells #[.int .i64 a1_0, .int .i64 a1_1, .bool a1_2] 26 (0, 0)) (by (with_reducible repeat (first | refine blk_drewN ?_ _ | refine blk_drew ?_ | refine blk_alloc ?_ _)); exact BK131.out) k_ hk⟩))
      (case aO => exact (by (with_reducible repeat (first | apply Kd.R_alloc | apply Kd.R_drewN | apply Kd.R_drew)); exact HO136.out))
      (case aS => exact (below_size (by repeat (first | (with_reducible first | exact HB.out | apply below_alloc | apply pw_below_drewN | apply below_drew1 | refine below_set ?_ GE130.out | refine below_set ?_ GE131.out | refine below_set ?_ GE132.out | refine below_set ?_ GE133.out) | exact HB.out))))
      (case aL => have := LMc4.out; omega)
      intro v141 w24 ho hb hg hat
      rw [← Ny140.out] at ho
      have n0_ := Aside0.mk (blk_grown (g := gb130) (o := .cells #[.slice A0_0 l0_0.length c0_0, .bool a0_1, .int .i64 a0_2] 24 (0, 0)) (by (with_reducible repeat (first | refine blk_drewN ?_ _ | refine blk_drew ?_ | refine blk_alloc ?_ _)); exact BK130.out) hg (Kd.R_ne HO136.out BK130.out (by decide)))
      have n1_ := Aside0.mk (blk_grown (g := gb131) (o := .cells #[.int .i64 a1_0, .int .i64 a1_1, .bool a1_2] 26 (0, 0)) (by (with_reducible repeat (first | refine blk_drewN ?_ _ | refine blk_drew ?_ | refine blk_alloc ?_ _)); exact BK131.out) hg (Kd.R_away HO136.out (fun _ hk => hk.2.2)))
      have n2_ := Aside0.mk (blk_grown (g := gb132) (o := .cells #[.slice none 0 0, .bool false, .int .i64 0] 24 (0, 0)) (by (with_reducible repeat (first | refine blk_drewN ?_ _ | refine blk_drew ?_ | refine blk_alloc ?_ _)); exact BK132.out) hg (Kd.R_ne HO136.out BK132.out (by decide)))
      have n3_ := Aside0.mk (blk_grown (g := gb133) (o := .cells #[.slice A0_0 l0_0.length c0_0, .bool a0_1, .int .i64 a0_2] 24 (0, 0)) (by (with_reducible repeat (first | refine blk_drewN ?_ _ | refine blk_drew ?_ | refine blk_alloc ?_ _)); exact BK133.out) hg (Kd.R_ne HO136.out BK133.out (by decide)))
      have n4_ := Aside0.mk (Kd.R_after (ok := (fun k_ => (w.heap.size ≤ k_) ∧ k_ ≠ gb131)) (by (with_reducible repeat (first | apply Kd.R_alloc | apply Kd.R_drewN | apply Kd.R_drew)); exact Kd.R_mono HO139.out (fun _ hk => ⟨⟨hk.1, hk.2.2⟩, hk.2.1⟩)) hg hat)
      have n5_ := Aside0.mk (hb)
      have n6_ := Aside0.mk (ho)
      clear BK130
      clear BK131
      clear BK132
      clear BK133
      clear HO139
      clear HB
      clear HO136
      have BK130 := n0_
      have BK131 := n1_
      have BK132 := n2_
      have BK133 := n3_
      have HO139 := n4_
      have HB := n5_
      have HO142 := n6_
      clear n0_ n1_ n2_ n3_ n4_ n5_ n6_
      clear ho hb hg hat
      obtain ⟨Ao26, co26, eo26⟩ := Kd.R_slice HO142.out
      (first | subst eo26 | (injection eo26 with f1_ f2_ f3_; have f4_ := f1_.symm; have f5_ := f3_.symm; clear f1_ f2_ f3_; subst f4_; subst f5_))
      refine hK.out _ _ ⟨(blk_cell BK130.out 0).trans rfl, (blk_cell BK130.out 1).trans rfl, (blk_cell BK130.out 2).trans rfl, (blk_cell BK131.out 0).trans rfl, (blk_cell BK131.out 1).trans rfl, (blk_cell BK131.out 2).trans rfl⟩ (fun hHeld => ?_)
      clear hK K
      refine norm_ (a' := ?_) ?_ ?_
      rotate_left
      · show Act.put _ (some 19) _ = _
        simp only [Act.put, List.setIfInBounds_toArray, List.set_cons_zero, List.set_cons_succ, i64_w, i32_w]
        rfl
      refine pure_ (i := 6) (N := some 20) (v := ?_) (a' := ?_) #[true, true, true, true, true, true, true, false] rfl rfl (any_of HT_.out (by kernel_rfl)) (fun _ _ _ h => h) (Or.inl ⟨by rfl, ?_⟩) ?_ ?_
      rotate_left
      · intro w'
        go_simp
        with_reducible rfl
      rotate_left
      · simp only [Act.put, List.setIfInBounds_toArray, List.set_cons_zero, List.set_cons_succ, i64_w, i32_w]
        rfl
      refine one_ (i := 7) (N := none) #[true, true, true, true, true, true, true, true] rfl rfl (one_of HT_.out (by kernel_rfl)) (by decide) (fun K hK => ?_)
      have hs27 : w24.cell? ⟨gb133, 0, none⟩ = some (.slice A0_0 l0_0.length c0_0) := (blk_cell BK133.out 0).trans rfl
      have hfs27 := blk_frozen BK133.out 0
      have hns27_0 := NB130_133.out
      have hns27_1 := NB131_133.out
      have hns27_2 := NB132_133.out
      have hms27_0 := NB133_130.out
      have hms27_1 := NB133_131.out
      have hms27_2 := NB133_132.out
      refine skip_ (w1 := ?_) (by rfl) rfl ?_ ?_
      rotate_left
      · go_simp
        rfl
      refine hK.out _ _ ⟨((cell_far (p := ⟨gb133, _, none⟩) NB130_133.out _).trans (hHeld.1)), ((cell_far (p := ⟨gb133, _, none⟩) NB130_133.out _).trans (hHeld.2.1)), ((cell_far (p := ⟨gb133, _, none⟩) NB130_133.out _).trans (hHeld.2.2.1)), ((cell_far (p := ⟨gb133, _, none⟩) NB131_133.out _).trans (hHeld.2.2.2.1)), ((cell_far (p := ⟨gb133, _, none⟩) NB131_133.out _).trans (hHeld.2.2.2.2.1)), ((cell_far (p := ⟨gb133, _, none⟩) NB131_133.out _).trans (hHeld.2.2.2.2.2))⟩ (fun hHeld => ?_)
      clear hK K
      refine done_ (done_of HT_.out (by kernel_rfl)) ?_
      have hcz28_0 : w24.cell? ⟨gb133, 0, none⟩ = some (.slice A0_0 l0_0.length c0_0) := (blk_cell BK133.out 0).trans rfl
      have hcz28_1 : w24.cell? ⟨gb133, 1, none⟩ = some (.bool a0_1) := (blk_cell BK133.out 1).trans rfl
      have hcz28_2 : w24.cell? ⟨gb133, 2, none⟩ = some (.int .i64 a0_2) := (blk_cell BK133.out 2).trans rfl
      have hfz28_0 := blk_frozen BK133.out 0
      have hfz28_1 := blk_frozen BK133.out 1
      have hfz28_2 := blk_frozen BK133.out 2
      try go_wp2_with (first | ((with_reducible refine gate_callee (f := 11) rfl ?_); refine goesL_ (some 23) rfl rfl Try.func11 (by kernel_rfl) rfl #[.agg #[.slice Ao26 y140.length co26, .bool a0_1, .int .i64 a0_2]] rfl (by (try simp only [List.map_toArray, List.map_cons, List.map_nil]); first | done | rfl | (simp only [List.length_drop, List.length_take]; rfl)) ?_; (with_reducible refine (leap_Check.calls k _ _ y140 a0_1 a0_2 t143 t144 _ ?side1 ?side2 A5.out).mono ?_); (case side1 => refine (Kd.R_reads' (e := 26) (base := w.heap.size) (ok := fun k_ => ((w.heap.size ≤ k_) ∧ (some k_ ≠ (.slice Ao25 y137.length co25 : Value).ownBlock ∧ k_ ≠ gb131))) (n := y140.length) (c := co26) ?_).2.2; exact (by (with_reducible repeat (first | apply Kd.R_alloc | apply Kd.R_drewN | apply Kd.R_drew)); exact (Kd.R_mono (Kd.R_far (p := ⟨gb133, 0, none⟩) (Kd.R_types HO142.out BK133.out (by decide)) (fun _ hk => hk.2) (.slice Ao26 y140.length co26)) (fun _ h_ => h_.1)))); (case side2 => exact (Kd.R_reads' HO142.out).2.1); rintro e w29 ⟨rfl, hb⟩; refine ⟨_, rfl, ?_⟩; have n0_ := Aside0.mk (Kd.R_below (by (with_reducible repeat (first | apply Kd.R_alloc | apply Kd.R_drewN | apply Kd.R_drew)); exact (Kd.R_mono (Kd.R_far (p := ⟨gb133, 0, none⟩) (Kd.R_types HO139.out BK133.out (by decide)) (fun _ hk => hk.2) (.slice Ao26 y140.length co26)) (fun _ h_ => h_.1))) hb); have n1_ := Aside0.mk (Kd.R_below (by (with_reducible repeat (first | apply Kd.R_alloc | apply Kd.R_drewN | apply Kd.R_drew)); exact (Kd.R_mono (Kd.R_far (p := ⟨gb133, 0, none⟩) (Kd.R_types HO142.out BK133.out (by decide)) (fun _ hk => hk.2) (.slice Ao26 y140.length co26)) (fun _ h_ => h_.1))) hb); have n2_ := Aside0.mk (blk_below (g := gb130) (o := .cells #[.slice A0_0 l0_0.length c0_0, .bool a0_1, .int .i64 a0_2] 24 (0, 0)) (by (with_reducible repeat (first | refine blk_drewN ?_ _ | refine blk_drew ?_ | refine blk_alloc ?_ _)); refine blk_far ?_ NB130_133.out _; (with_reducible repeat (first | refine blk_drewN ?_ _ | refine blk_drew ?_ | refine blk_alloc ?_ _)); exact BK130.out) hb); have n3_ := Aside0.mk (blk_below (g := gb131) (o := .cells #[.int .i64 a1_0, .int .i64 a1_1, .bool a1_2] 26 (0, 0)) (by (with_reducible repeat (first | refine blk_drewN ?_ _ | refine blk_drew ?_ | refine blk_alloc ?_ _)); refine blk_far ?_ NB131_133.out _; (with_reducible repeat (first | refine blk_drewN ?_ _ | refine blk_drew ?_ | refine blk_alloc ?_ _)); exact BK131.out) hb); have n4_ := Aside0.mk (blk_below (g := gb132) (o := .cells #[.slice none 0 0, .bool false, .int .i64 0] 24 (0, 0)) (by (with_reducible repeat (first | refine blk_drewN ?_ _ | refine blk_drew ?_ | refine blk_alloc ?_ _)); refine blk_far ?_ NB132_133.out _; (with_reducible repeat (first | refine blk_drewN ?_ _ | refine blk_drew ?_ | refine blk_alloc ?_ _)); exact BK132.out) hb); have n5_ := Aside0.mk (blk_below (g := gb133) (o := .cells #[.slice Ao26 y140.length co26, .bool a0_1, .int .i64 a0_2] 24 (0, 0)) (by (with_reducible repeat (first | refine blk_drewN ?_ _ | refine blk_drew ?_ | refine blk_alloc ?_ _)); refine blk_put (cs := #[.slice A0_0 l0_0.length c0_0, .bool a0_1, .int .i64 a0_2]) ?_ 0 _ rfl; (with_reducible repeat (first | refine blk_drewN ?_ _ | refine blk_drew ?_ | refine blk_alloc ?_ _)); exact BK133.out) hb); have n6_ := Aside0.mk (below_step (by repeat (first | (with_reducible first | exact HB.out | apply below_alloc | apply pw_below_drewN | apply below_drew1 | refine below_set ?_ GE130.out | refine below_set ?_ GE131.out | refine below_set ?_ GE132.out | refine below_set ?_ GE133.out) | exact HB.out)) hb); clear HO139; clear HO142; clear BK130; clear BK131; clear BK132; clear BK133; clear HB; have HO139 := n0_; have HO142 := n1_; have BK130 := n2_; have BK131 := n3_; have BK132 := n4_; have BK133 := n5_; have HB := n6_; clear n0_ n1_ n2_ n3_ n4_ n5_ n6_; (try clear hb); (try clear hb2); (try clear hk); (try clear hi); have hcz30_0 : w29.cell? ⟨gb133, 0, none⟩ = some (.slice Ao26 y140.length co26) := (blk_cell BK133.out 0).trans rfl; have hcz30_1 : w29.cell? ⟨gb133, 1, none⟩ = some (.bool a0_1) := (blk_cell BK133.out 1).trans rfl; have hcz30_2 : w29.cell? ⟨gb133, 2, none⟩ = some (.int .i64 a0_2) := (blk_cell BK133.out 2).trans rfl; have hfz30_0 := blk_frozen BK133.out 0; have hfz30_1 := blk_frozen BK133.out 1; have hfz30_2 := blk_frozen BK133.out 2; have hnb31 := NB132_131.out; have hnc31 := NB131_132.out; have hcz32_0 : w29.cell? ⟨gb132, 0, none⟩ = some (.slice none 0 0) := (blk_cell BK132.out 0).trans rfl; have hcz32_1 : w29.cell? ⟨gb132, 1, none⟩ = some (.bool false) := (blk_cell BK132.out 1).trans rfl; have hcz32_2 : w29.cell? ⟨gb132, 2, none⟩ = some (.int .i64 0) := (blk_cell BK132.out 2).trans rfl; have hfz32_0 := blk_frozen BK132.out 0; have hfz32_1 := blk_frozen BK132.out 1; have hfz32_2 := blk_frozen BK132.out 2); have hnbX := NB132_133.out; have hncX := NB133_132.out; have hcapX : ((l0_0.length : Nat) : Int) ≤ ((co26 : Nat) : Int) := by { have z_ := (Kd.R_reads' HO142.out).2.1; have z2_ := HLEN.out; omega })
      refine bodyPost_ret (results_ct rfl _ _ gb132 24 #[.slice Ao26 l0_0.length l0_0.length, .bool a0_1, .int .i64 a0_2] (0, 0) _ rfl (by (with_reducible repeat (first | refine blk_drewN ?_ _ | refine blk_drew ?_ | refine blk_alloc ?_ _)); refine blk_put (cs := #[.slice Ao26 l0_0.length l0_0.length, .bool a0_1, .int .i64 0]) ?_ 2 _ rfl; (with_reducible repeat (first | refine blk_drewN ?_ _ | refine blk_drew ?_ | refine blk_alloc ?_ _)); refine blk_put (cs := #[.slice Ao26 l0_0.length l0_0.length, .bool false, .int .i64 0]) ?_ 1 _ rfl; (with_reducible repeat (first | refine blk_drewN ?_ _ | refine blk_drew ?_ | refine blk_alloc ?_ _)); refine blk_put (cs := #[.slice none 0 0, .bool false, .int .i64 0]) ?_ 0 _ rfl; (with_reducible repeat (first | refine blk_drewN ?_ _ | refine blk_drew ?_ | refine blk_alloc ?_ _)); refine blk_far ?_ NB132_133.out _; (with_reducible repeat (first | refine blk_drewN ?_ _ | refine blk_drew ?_ | refine blk_alloc ?_ _)); exact BK132.out) Try.underlying24 rfl (by kernel_rfl)) rfl ?_
      have HV : Aside0 (Kd.R k26 26 ((((w29.setCell ⟨gb133, 0, none⟩ (.slice Ao26 l0_0.length l0_0.length)).setCell ⟨gb132, 0, none⟩ (.slice Ao26 l0_0.length l0_0.length)).setCell ⟨gb132, 1, none⟩ (.bool a0_1)).setCell ⟨gb132, 2, none⟩ (.int .i64 a0_2)) w.heap.size (fun k_ => (w.heap.size ≤ k_)) (.slice Ao26 y140.length co26) y140) := ⟨(by (with_reducible repeat (first | apply Kd.R_alloc | apply Kd.R_drewN | apply Kd.R_drew)); exact Kd.R_mono (Kd.R_far (p := ⟨gb132, 2, none⟩) (Kd.R_far (p := ⟨gb132, 1, none⟩) (Kd.R_far (p := ⟨gb132, 0, none⟩) (Kd.R_far (p := ⟨gb133, 0, none⟩) (Kd.R_types (Kd.R_types HO142.out BK132.out (by decide)) BK133.out (by decide)) (fun _ hk => hk.2) (.slice Ao26 l0_0.length l0_0.length)) (fun _ hk => hk.1.2) (.slice Ao26 l0_0.length l0_0.length)) (fun _ hk => hk.1.2) (.bool a0_1)) (fun _ hk => hk.1.2) (.int .i64 a0_2)) (fun _ hk => hk.1.1.1))⟩
      have HN : (y140.take l0_0.length).length = l0_0.length := by rw [List.length_take]; have := HLEN.out; omega
      have HW : Aside0 (Kd.VW k26 26 ((((w29.setCell ⟨gb133, 0, none⟩ (.slice Ao26 l0_0.length l0_0.length)).setCell ⟨gb132, 0, none⟩ (.slice Ao26 l0_0.length l0_0.length)).setCell ⟨gb132, 1, none⟩ (.bool a0_1)).setCell ⟨gb132, 2, none⟩ (.int .i64 a0_2)) w.heap.size (fun k_ => (w.heap.size ≤ k_)) (.slice Ao26 l0_0.length l0_0.length) (y140.take l0_0.length)) := ⟨Kd.VW_cut HV.out HLEN.out⟩
      exact ⟨_, by first | rfl | (simp [errW_none, errW_some] <;> rfl) | (simp [*, errW_none, errW_some] <;> rfl), HW.out, by repeat (first | (with_reducible first | exact HB.out | apply below_alloc | apply pw_below_drewN | apply below_drew1 | refine below_set ?_ GE130.out | refine below_set ?_ GE131.out | refine below_set ?_ GE132.out | refine below_set ?_ GE133.out) | exact HB.out)⟩
  · rw [if_neg c4] at H
    exact absurd H (by simp)
theorem leap_Add.calls (k : Nat) (A0_0 : Option Addr) (c0_0 : Nat) (l0_0 : List (S26)) (a0_1 : Bool) (a0_2 : Int) (a1_0 : Int) (a1_1 : Int) (a1_2 : Bool) (r1 : List (S26)) (r2 : Bool) (r3 : Int) (r4 : Int) (w : World) (hr0_0 : Kd.C k26 w A0_0 l0_0.length l0_0) (hc0_0 : l0_0.length ≤ c0_0) (h : leap_Add.f k l0_0 a0_1 a0_2 a1_0 a1_1 a1_2 = some (r1, r2, r3, r4)) :
    Calls Try.prog 18 #[.agg #[.slice A0_0 l0_0.length c0_0, .bool a0_1, .int .i64 a0_2], .agg #[.int .i64 a1_0, .int .i64 a1_1, .bool a1_2]] w fun e w' => ∃ v0_ : Value, e = .returned (.tuple #[.agg #[v0_, .bool r2, .int .i64 r3], .int .i64 r4]) ∧ Kd.V k26 26 w' w.heap.size (fun k_ => (w.heap.size ≤ k_)) v0_ r1 ∧ Below w.heap.size w w' :=
  (leap_Add.callsW k A0_0 c0_0 l0_0 a0_1 a0_2 a1_0 a1_1 a1_2 r1 r2 r3 r4 w hr0_0 hc0_0 h).mono (fun _ _ ⟨v_, h1_, h2_, h3_⟩ => ⟨v_, h1_, Kd.VW_V h2_, h3_⟩)

-- NOT PRINTED: function 32 (sort_Search)

/-! ### leap_Find: function 20 -/
-- by hand: wip/hand
/-- is a table's row of days in order? -/
def leap_Find.Asc (l : List S26) : Prop := l.Pairwise (fun x y => x.f0 ≤ y.f0)
instance leap_Find.instAsc (l : List S26) : Decidable (leap_Find.Asc l) := by unfold leap_Find.Asc; exact inferInstance
def leap_Find.f (l0_0 : List (S26)) (a0_1 : Bool) (a0_2 : Int) (a1 : Int) : Option (Int) :=
  if l0_0.length < 4611686018427387904 ∧ leap_Find.Asc l0_0 then some ((l0_0.countP (fun y => !decide (a1 ≤ y.f0)) : Nat) : Int) else none
set_option maxHeartbeats 2000000 in
theorem leap_Find.clo (gt gd n c : Nat) (ad : Addr) (a1 x : Int) (i : Nat) (W : World) (hi : i < n)
    (h0 : W.cell? ⟨gt, 0, none⟩ = some (.slice (some ad) n c)) (hd : W.cell? ⟨gd, 0, none⟩ = some (.int .i64 a1)) (hc : W.cell? (ad.add (i * 3)) = some (.int .i64 x)) :
    Calls Try.prog 33 (#[.int .i64 i] ++ #[.pointer (some ⟨gt, 0, none⟩), .pointer (some ⟨gd, 0, none⟩)]) W fun e w' => e = .returned (.bool (decide (a1 ≤ x))) ∧ ∃ q, w' = W.drewN q := by
  have hiz : (i : Int) < (n : Int) := by omega
  have hu := Try.underlying24
  have hu2 := Try.underlying26
  go_enter Try.func33, Try.ntmps33
  go_wp2
  go_region
  all_goals go_wp2
  all_goals go_ret
  all_goals exact ⟨by first | rfl | simp, 1, rfl⟩
theorem leap_Find.asc_at {l : List S26} (h : leap_Find.Asc l) (a b : Nat) (hab : a ≤ b) (hb : b < l.length) : (l.getD a z26).f0 ≤ (l.getD b z26).f0 := by
  have ha : a < l.length := by omega
  simp only [List.getD_eq_getElem?_getD, List.getElem?_eq_getElem ha, List.getElem?_eq_getElem hb, Option.getD_some]
  by_cases e : a = b
  · subst e; exact Int.le_refl _
  · exact List.pairwise_iff_getElem.mp h a b ha hb (by omega)
theorem leap_Find.count (l : List S26) (p : S26 → Bool) : (List.range l.length).countP (fun i => p (l.getD i z26)) = l.countP p := by
  have : l = (List.range l.length).map (fun i => l.getD i z26) := by
    apply List.ext_getElem
    · simp
    · intro i h1 h2; simp [h1]
  conv => rhs; rw [this, List.countP_map]
  rfl
open Go.Shelf Go.Sort in
set_option maxHeartbeats 4000000 in
theorem leap_Find.calls (A0_0 : Option Addr) (c0_0 : Nat) (l0_0 : List (S26)) (a0_1 : Bool) (a0_2 : Int) (a1 : Int) (r : Int) (w : World) (hr0_0 : Kd.C k26 w A0_0 l0_0.length l0_0) (hc0_0 : l0_0.length ≤ c0_0) (h : leap_Find.f l0_0 a0_1 a0_2 a1 = some r) :
    Calls Try.prog 20 #[.agg #[.slice A0_0 l0_0.length c0_0, .bool a0_1, .int .i64 a0_2], .int .i64 a1] w fun e w' => e = .returned (.int .i64 r) ∧ Below w.heap.size w w' := by
  unfold leap_Find.f at h
  by_cases hs : l0_0.length < 4611686018427387904 ∧ leap_Find.Asc l0_0
  · rw [if_pos hs] at h
    obtain ⟨hsz, hasc⟩ := hs
    obtain ⟨W0, hW0⟩ : ∃ W0, W0 = (w.alloc (.cells #[.slice A0_0 l0_0.length c0_0, .bool a0_1, .int .i64 a0_2] 24)).alloc (.cells #[.int .i64 a1] 3) := ⟨_, rfl⟩
    have hsize : W0.heap.size = w.heap.size + 1 + 1 := by rw [hW0]; simp
    have ca : W0.cell? ⟨w.heap.size, 0, none⟩ = some (.slice A0_0 l0_0.length c0_0) := by
      rw [hW0]; exact cell_alloc_sl _ ((blk_cell (by simpa using heap_alloc_new w _) 0).trans rfl)
    have cx : W0.cell? ⟨w.heap.size + 1, 0, none⟩ = some (.int .i64 a1) := by
      rw [hW0]
      have := cell_new_sl (w.alloc (.cells #[.slice A0_0 l0_0.length c0_0, .bool a0_1, .int .i64 a0_2] 24)) (.int .i64 a1) 3
      rwa [World.size_alloc] at this
    have eg : ∀ args w, (callFunc 33 args).run Try.prog w = .ok (.enter 33 args) w := enters_of Try.func33 (by kernel_rfl) rfl
    have hS := Any.sort_Search Try.laysSearch 33 #[.pointer (some ⟨w.heap.size, 0, none⟩), .pointer (some ⟨w.heap.size + 1, 0, none⟩)] l0_0.length (fun i => decide (a1 ≤ (l0_0.getD i z26).f0)) W0 eg hsz
      (fun m os i hi => by
        obtain ⟨ad, rfl, hx, _, _⟩ := at_T26 hr0_0 (i : Int) (by omega) (by omega)
        have hx' : w.cell? (ad.add (i * 3)) = some (.int .i64 (l0_0.getD i z26).f0) := by simpa [rd_T26] using hx
        have hlt := World.block_lt_of_cell? w _ hx'
        have hx2 : W0.cell? (ad.add (i * 3)) = some (.int .i64 (l0_0.getD i z26).f0) := by
          rw [hW0, World.cell?_alloc_lt _ _ _ (by simp; omega), World.cell?_alloc_lt _ _ _ hlt]; exact hx'
        refine (leap_Find.clo w.heap.size (w.heap.size + 1) l0_0.length c0_0 ad a1 _ i _ hi (cell_grown (by simp [hsize]; omega) ca m os) (cell_grown (by simp [hsize]) cx m os) (cell_grown (by rw [hsize]; omega) hx2 m os)).mono ?_
        rintro _ _ ⟨he, q, hq⟩
        exact ⟨he, q, #[], by rw [hq, grow_empty]⟩)
      (fun a b hab hb hp => by have := leap_Find.asc_at hasc a b hab hb; simp only [decide_eq_true_eq] at hp ⊢; omega)
    rw [leap_Find.count l0_0 (fun y => !decide (a1 ≤ y.f0))] at hS
    change Calls Try.prog 32 _ _ _ at hS
    obtain rfl := Option.some.inj h
    clear h ca cx hasc
    have hsz' := Aside0.mk hsz
    clear hsz
    generalize l0_0.countP (fun y => !decide (a1 ≤ y.f0)) = r at hS ⊢
    have hu := Try.underlying24
    have HS := Aside0.mk hS
    clear hS
    have HW := Aside0.mk hW0
    clear hW0
    have HZ := Aside0.mk hsize
    clear hsize
    go_enter Try.func20, Try.ntmps20
    go_wp2_with (go_at_call 32; rw [← HW.out]; refine HS.out.mono ?_; rintro e w' ⟨rfl, q, os, rfl⟩)
    go_ret
    refine ⟨rfl, ?_⟩
    have hB0 : Below w.heap.size w W0 := by rw [HW.out]; exact ((Below.refl _ w).alloc (Nat.le_refl _) _).alloc (by simp) _
    exact hB0.trans (below_grown_sl w.heap.size W0 q os (by have := HZ.out; omega))
  · rw [if_neg hs] at h; exact absurd h (by simp)

end Go.Proofs.Ytfmibhepehhljaa.PAll
