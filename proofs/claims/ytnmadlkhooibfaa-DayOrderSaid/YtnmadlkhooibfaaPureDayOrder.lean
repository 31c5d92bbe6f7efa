/- DayOrder: a later date has a greater number, for any two dates: no condition. -/
import Derived.Test.YtnmadlkhooibfaaDay
import Derived.Test.YtnmadlkhooibfaaSmall03
import Derived.Test.YtnmadlkhooibfaaPAllx3
namespace Go.Proofs.Ytnmadlkhooibfaa.Pure
open Go.RowKit Go.Proofs.Ytnmadlkhooibfaa.PAll Go.Proofs.YtnmadlkhooibfaaW.PrintWords Go.Proofs.YtnmadlkhooibfaaW.PrintLast

theorem DayOrder : epactlaw03_DayOrder.Pure := by
  intro y m d z k e _ _ hd _ _ he
  refine ⟨5, ?_⟩
  unfold epactlaw03_DayOrder.f
  rw [small03 3, number_law _ _ _ _ (i64_of hd), number_law _ _ _ _ (i64_of he)]
  simp only [Option.bind_some]
  by_cases v : Cal.Valid y m d
  · rw [if_pos v]
    by_cases u : Cal.Valid z k e
    · rw [if_pos u]
      simp only [if_true]
      have A := Cal.num_lt _ _ _ _ _ _ v u
      have B := Cal.num_lt _ _ _ _ _ _ u v
      have C := Cal.num_inj _ _ _ _ _ _ v u
      have D : y = z → m = k → d = e → Cal.num y m d = Cal.num z k e := by rintro rfl rfl rfl; rfl
      generalize Cal.num y m d = p at *
      generalize Cal.num z k e = q at *
      unfold Cal.before at A B
      by_cases h1 : z > y
      · have := A (by omega)
        rw [if_pos h1, decide_eq_true (show q > p by omega)]
        have : ¬ y = z := by omega
        have : ¬ q = p := by omega
        simp [*]
      · rw [if_neg h1]
        by_cases h2 : z = y
        · subst h2
          by_cases h3 : k > m
          · have := A (by omega)
            rw [if_pos rfl, if_pos h3, decide_eq_true (show q > p by omega)]
            have : ¬ m = k := by omega
            have : ¬ q = p := by omega
            simp [*]
          · rw [if_pos rfl, if_neg h3]
            by_cases h4 : k = m
            · subst h4
              rcases Int.lt_trichotomy d e with h5 | h5 | h5
              · have := A (by omega)
                have : (q == p) = false := beq_eq_false_iff_ne.mpr (by omega)
                have : (d == e) = false := beq_eq_false_iff_ne.mpr (by omega)
                have : q > p := by omega
                have : e > d := h5
                simp [*]
              · subst h5
                have := D rfl rfl rfl
                subst this
                simp
              · have := B (by omega)
                have : (q == p) = false := beq_eq_false_iff_ne.mpr (by omega)
                have : (d == e) = false := beq_eq_false_iff_ne.mpr (by omega)
                have : ¬ q > p := by omega
                have : ¬ e > d := by omega
                simp [*]
            · have := B (by omega)
              rw [if_neg h4, decide_eq_false (show ¬ q > p by omega)]
              have : ¬ m = k := by omega
              have : ¬ q = p := by omega
              simp [*]
        · have := B (by omega)
          rw [if_neg h2, decide_eq_false (show ¬ q > p by omega)]
          have : ¬ y = z := by omega
          have : ¬ q = p := by omega
          simp [*]
    · rw [if_neg u]; simp
  · rw [if_neg v]; simp

end Go.Proofs.Ytnmadlkhooibfaa.Pure
