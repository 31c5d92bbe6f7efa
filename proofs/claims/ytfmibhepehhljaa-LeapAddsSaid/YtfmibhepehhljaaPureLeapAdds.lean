/- LeapAdds: what is added stands behind all others, and changes no Total up to its day, for any table, any leap, any day: no condition. -/
import Derived.Test.YtfmibhepehhljaaSmall09
import Derived.Test.YtfmibhepehhljaaStmtLeapAdds
import Derived.Test.YtfmibhepehhljaaPAllx3
import Derived.Test.YtfmibhepehhljaaPAllx4
namespace Go.Proofs.Ytfmibhepehhljaa.Pure
open Go.RowKit Go.Proofs.Ytfmibhepehhljaa.PAll Go.Proofs.YtfmibhepehhljaaW.PrintWords Go.Proofs.YtfmibhepehhljaaW.PrintLast

theorem tot_snoc (x : LeapP.L) (d : Int) : ∀ (l : List LeapP.L), LeapP.tot (l ++ [x]) d = LeapP.tot l d + (if x.day < d then x.step else 0) := by
  intro l
  induction l with
  | nil => simp [LeapP.tot]
  | cons y l ih => simp only [List.cons_append, LeapP.tot, ih]; omega
theorem good_last (x : LeapP.L) : ∀ (l : List LeapP.L) (a : Int), LeapP.Good a (l ++ [x]) → a < x.day ∧ LeapP.stp (l ++ [x]) x.day = x.step := by
  intro l
  induction l with
  | nil => intro a h; obtain ⟨h1, h2, h3, h4, h5, h6⟩ := h; exact ⟨h5, by simp [LeapP.stp]⟩
  | cons y l ih =>
    intro a h
    obtain ⟨h1, h2, h3, h4, h5, h6⟩ := h
    obtain ⟨i1, i2⟩ := ih y.day h6
    refine ⟨by omega, ?_⟩
    simp only [List.cons_append, LeapP.stp]
    rw [if_neg (by omega)]; exact i2
theorem same_loop (l rest : List S26) (hl : l.length ≤ 9223372036854775806) : ∀ (pre : List S26) (k : Nat), l = pre ++ rest → rest.length < k →
    api_Leap_30.l0 k l l (l.length : Int) (pre.length : Int) = some true := by
  induction rest with
  | nil =>
    intro pre k e hk
    obtain ⟨k, rfl⟩ : ∃ m, k = m + 1 := ⟨k - 1, by omega⟩
    have : l.length = pre.length := by rw [e]; simp
    simp only [api_Leap_30.l0]
    rw [if_neg (by omega)]
  | cons x rest ih =>
    intro pre k e hk
    simp only [List.length_cons] at hk
    obtain ⟨k, rfl⟩ : ∃ m, k = m + 1 := ⟨k - 1, by omega⟩
    have hlen : l.length = pre.length + (rest.length + 1) := by rw [e]; simp
    have := ih (pre ++ [x]) k (by rw [e]; simp) (by omega)
    simp only [List.length_append, List.length_cons, List.length_nil] at this
    simp only [api_Leap_30.l0]
    rw [if_pos (by omega), if_pos (by omega), if_pos (by omega)]
    rw [w64 (n := (pre.length : Int) + 1) (by omega) (by omega), show ((pre.length : Int) + 1) = ((pre.length + (0 + 1) : Nat) : Int) by omega, this]
    simp; omega
theorem same_self (l : List S26) (has : Bool) (exp : Int) (hl : l.length ≤ 300) (k : Nat) (hk : 301 < k) : leap_Same.f k l has exp l has exp = some true := by
  have h : api_Leap_30.l0 k l l (l.length : Int) 0 = some true := same_loop l l (by omega) [] k rfl (by omega)
  have h2 : api_Leap_30.f k l l = some true := by unfold api_Leap_30.f; rw [if_pos rfl]; exact h
  have h3 : (has == has) = true := by simp
  unfold leap_Same.f
  rw [if_pos h3, if_pos rfl, h2]; rfl
theorem add_law (l : List S26) (has : Bool) (exp a b : Int) (c : Bool) (hl : l.length ≤ 300) (k : Nat) (hk : 310 < k) :
    leap_Add.f k l has exp a b c = some (let e := (LeapP.check ((l ++ [(⟨a, b, c⟩ : S26)]).map toL) has exp).2; if e = 0 then (l ++ [(⟨a, b, c⟩ : S26)], has, exp, 0) else (l, has, exp, e)) := by
  have h1 : ([] : List S26).length + l.length < 5864062014805 := by rw [List.length_nil]; omega
  have h2 : (([] : List S26) ++ l).length + [(⟨a, b, c⟩ : S26)].length < 5864062014805 := by rw [List.length_append, List.length_nil, List.length_singleton]; omega
  have h3 := check_law (l ++ [(⟨a, b, c⟩ : S26)]) has exp (by rw [List.length_append, List.length_singleton]; omega) k (by rw [List.length_append, List.length_singleton]; omega)
  unfold leap_Add.f api_Leap_31.f
  rw [Option.bind_some, if_pos h1, Option.bind_some, Option.bind_some, if_pos h2, Option.bind_some, List.nil_append, h3, Option.bind_some]
  by_cases h : (LeapP.check ((l ++ [(⟨a, b, c⟩ : S26)]).map toL) has exp).2 = 0
  · rw [if_pos h]; simp only [if_pos h]
  · rw [if_neg h, List.take_left]; simp only [if_neg h]
theorem add_ok (l : List S26) (has : Bool) (exp a b : Int) (c : Bool) (hl : l.length ≤ 300) (k : Nat) (hk : 310 < k) (h : (LeapP.check ((l ++ [(⟨a, b, c⟩ : S26)]).map toL) has exp).2 = 0) :
    leap_Add.f k l has exp a b c = some (l ++ [(⟨a, b, c⟩ : S26)], has, exp, 0) := by
  rw [add_law l has exp a b c hl k hk]; simp only [if_pos h]
theorem add_no (l : List S26) (has : Bool) (exp a b : Int) (c : Bool) (hl : l.length ≤ 300) (k : Nat) (hk : 310 < k) (h : ¬ (LeapP.check ((l ++ [(⟨a, b, c⟩ : S26)]).map toL) has exp).2 = 0) :
    ∃ e, e ≠ 0 ∧ leap_Add.f k l has exp a b c = some (l, has, exp, e) := by
  refine ⟨_, h, ?_⟩
  rw [add_law l has exp a b c hl k hk]; simp only [if_neg h]
/-- what the law reads of the longer table -/
structure Adds (k : Nat) (l y : List S26) (has : Bool) (exp a b : Int) (c : Bool) (d T : Int) : Prop where
  e1 : leap_Right.f k y has exp = some true
  e2 : leap_Total.f k y has exp d = some (T + if a < d then b else 0)
  e3 : leap_Total.f k l has exp d = some T
  e4 : leap_Step.f y has exp a = some b
  e5 : y.length = l.length + 1
  e6 : rd_T26 y (l.length : Int) = ⟨a, b, c⟩
  e7 : -200 ≤ T ∧ T ≤ 200 ∧ (b = 1 ∨ b = -1) ∧ l.length ≤ 300
theorem adds_of (k : Nat) (hk : 400 ≤ k) (l : List S26) (has : Bool) (exp a b : Int) (c : Bool) (d : Int) (hr : ((LeapP.check (l.map toL) has exp).2 == 0) = true)
    (h : (LeapP.check ((l ++ [(⟨a, b, c⟩ : S26)]).map toL) has exp).2 = 0) : Adds k l (l ++ [(⟨a, b, c⟩ : S26)]) has exp a b c d (LeapP.tot (l.map toL) d) := by
  obtain ⟨R, G, hl⟩ := right_of hr
  obtain ⟨R2, G2, hl2⟩ := right_of (l := l ++ [(⟨a, b, c⟩ : S26)]) (beq_iff_eq.mpr h)
  have e1 : leap_Right.f k (l ++ [(⟨a, b, c⟩ : S26)]) has exp = some true := by
    rw [right_law _ has exp (Nat.le_trans hl2 (by decide)) k (Nat.lt_of_lt_of_le (Nat.lt_of_le_of_lt (Nat.add_le_add_right hl2 4) (by decide)) hk), h]; rfl
  have e2 := total_law (l ++ [(⟨a, b, c⟩ : S26)]) has exp d 729 G2 hl2 k (Nat.lt_of_lt_of_le (by decide) hk)
  have e3 := total_law l has exp d 729 G hl k (Nat.lt_of_lt_of_le (by decide) hk)
  have e4 := step_law (l ++ [(⟨a, b, c⟩ : S26)]) has exp a 729 G2 (Nat.lt_of_le_of_lt hl2 (by decide))
  have m : (l ++ [(⟨a, b, c⟩ : S26)]).map toL = l.map toL ++ [(⟨a, b, c⟩ : LeapP.L)] := by rw [List.map_append]; rfl
  rw [m] at e2 e4 G2
  have t1 := tot_snoc ⟨a, b, c⟩ d (l.map toL)
  have t2 := (good_last ⟨a, b, c⟩ (l.map toL) 729 G2).2
  rw [t1] at e2
  have e4 : leap_Step.f (l ++ [(⟨a, b, c⟩ : S26)]) has exp a = some b := e4.trans (congrArg some t2)
  have bd := LeapP.tot_bd _ 729 d G
  have cl := LeapP.cnt_le (l.map toL) d
  rw [List.length_map] at cl
  have gb : b = 1 ∨ b = -1 := (LeapP.good_mem _ 729 G2 ⟨a, b, c⟩ (List.mem_append_right _ (List.mem_singleton.mpr rfl))).2.2.2.1
  refine ⟨e1, e2, e3, e4, List.length_append, rd_at l [] ⟨a, b, c⟩, ?_⟩
  clear e1 e2 e3 e4 t1 t2 m G G2 R R2 h hr
  generalize LeapP.cnt (l.map toL) d = n at bd cl
  generalize LeapP.tot (l.map toL) d = T at bd ⊢
  exact ⟨by omega, by omega, gb, by omega⟩
theorem adds_fin (k : Nat) (l y : List S26) (has : Bool) (exp a b : Int) (c : Bool) (d T : Int) (hs : epactlaw09_small.f k = some true) (hr : leap_Right.f k l has exp = some true) (H : Adds k l y has exp a b c d T)
    (hA : leap_Add.f k l has exp a b c = some (y, has, exp, 0)) : epactlaw09_LeapAdds.f k l has exp a b c d = some true := by
  obtain ⟨e1, e2, e3, e4, e5, e6, t0, t1, gb, hl⟩ := H
  have c0 : (y.length : Int) = wrap64 ((l.length : Int) + 1) := Eq.trans (by omega) (w64 (n := (l.length : Int) + 1) (by omega) (by omega)).symm
  have c1 : (l.length : Int) < (y.length : Int) := by omega
  have c2 : 0 ≤ (l.length : Int) := by omega
  have cf : (l.length : Int) ≤ 300 := by omega
  have c4 : (a == a && (b == b && c == c)) = true := by simp
  unfold epactlaw09_LeapAdds.f
  rw [hs, few_law, decide_eq_true cf, Option.bind_some, Option.bind_some, if_pos rfl, hr, Option.bind_some, if_pos rfl, hA, Option.bind_some, if_pos rfl]
  by_cases hd2 : d > a
  · rw [if_pos (show a < d from hd2)] at e2
    have c3 : T + b = wrap64 (T + b) := (w64 (by omega) (by omega)).symm
    rw [if_pos hd2, if_pos rfl, e1, Option.bind_some, if_pos rfl, if_pos c0, if_pos c2, if_pos c1, e6, if_pos c4, e2, Option.bind_some, e3, Option.bind_some, if_pos c3, e4, Option.bind_some]
    simp
  · rw [if_neg (show ¬ a < d from hd2)] at e2
    have c3 : T + 0 = wrap64 (T + 0) := (w64 (by omega) (by omega)).symm
    rw [if_neg hd2, if_pos rfl, e1, Option.bind_some, if_pos rfl, if_pos c0, if_pos c2, if_pos c1, e6, if_pos c4, e2, Option.bind_some, e3, Option.bind_some, if_pos c3, e4, Option.bind_some]
    simp
theorem adds_not (k : Nat) (l : List S26) (has : Bool) (exp a b e : Int) (c : Bool) (d : Int) (hl : l.length ≤ 300) (hs : epactlaw09_small.f k = some true) (hr : leap_Right.f k l has exp = some true)
    (hA : leap_Add.f k l has exp a b c = some (l, has, exp, e)) (he : e ≠ 0) (hS : leap_Same.f k l has exp l has exp = some true) : epactlaw09_LeapAdds.f k l has exp a b c d = some true := by
  have cf : (l.length : Int) ≤ 300 := by omega
  unfold epactlaw09_LeapAdds.f
  rw [hs, few_law, decide_eq_true cf, Option.bind_some, Option.bind_some, if_pos rfl, hr, Option.bind_some, if_pos rfl, hA, Option.bind_some, if_neg he, if_pos rfl, hS, Option.bind_some]
theorem adds_all (k : Nat) (hk : 400 ≤ k) (l : List S26) (has : Bool) (exp a b : Int) (c : Bool) (d : Int) : epactlaw09_LeapAdds.f k l has exp a b c d = some true := by
  have hs := small09 k (by omega)
  by_cases hf : (l.length : Int) ≤ 300
  · have hr0 := right_law l has exp (by omega) k (by omega)
    cases hr : ((LeapP.check (l.map toL) has exp).2 == 0) with
    | false =>
      rw [hr] at hr0
      unfold epactlaw09_LeapAdds.f
      rw [hs, few_law, decide_eq_true hf, Option.bind_some, Option.bind_some, if_pos rfl, hr0, Option.bind_some, if_neg (by decide)]
    | true =>
      rw [hr] at hr0
      have hl : l.length ≤ 300 := by omega
      have hk2 : 310 < k := by omega
      have hk3 : 301 < k := by omega
      by_cases h : (LeapP.check ((l ++ [(⟨a, b, c⟩ : S26)]).map toL) has exp).2 = 0
      · exact adds_fin k l _ has exp a b c d _ hs hr0 (adds_of k hk l has exp a b c d hr h) (add_ok l has exp a b c hl k hk2 h)
      · obtain ⟨e, he, hA⟩ := add_no l has exp a b c hl k hk2 h
        exact adds_not k l has exp a b e c d hl hs hr0 hA he (same_self l has exp hl k hk3)
  · unfold epactlaw09_LeapAdds.f
    rw [hs, few_law, decide_eq_false hf, Option.bind_some, Option.bind_some, if_neg (by decide)]
theorem LeapAdds : epactlaw09_LeapAdds.Pure := fun l has exp a b c d _ _ _ _ _ _ => ⟨400, adds_all 400 (Nat.le_refl _) l has exp a b c d⟩

end Go.Proofs.Ytfmibhepehhljaa.Pure
