/- DayBack: days and dates are each other's, for every number of a day and every date: no condition. -/
import Derived.Test.YtnmadlkhooibfaaDay
import Derived.Test.YtnmadlkhooibfaaSmall03
import Derived.Test.YtnmadlkhooibfaaPAllx2
namespace Go.Proofs.Ytnmadlkhooibfaa.Pure
open Go.RowKit Go.Proofs.Ytnmadlkhooibfaa.PAll Go.Proofs.YtnmadlkhooibfaaW.PrintWords Go.Proofs.YtnmadlkhooibfaaW.PrintLast

theorem DayBack : epactlaw03_DayBack.Pure := by
  intro n y m d _ _ _ hd
  have hd := i64_of hd
  refine ⟨5, ?_⟩
  unfold epactlaw03_DayBack.f
  rw [small03 3, date_law]
  simp only [Option.bind_some]
  have key : ∀ k, epactlaw03_DayBack.j1 (k + 2) y m d true = some true := by
    intro k
    simp only [epactlaw03_DayBack.j1]
    rw [number_law _ _ _ _ hd]
    simp only [Option.bind_some]
    by_cases v : Cal.Valid y m d
    · rw [if_pos v]
      simp only [if_true]
      rw [date_law]
      have b := Cal.num_bd y m d v
      rw [if_pos b]
      obtain ⟨v', e⟩ := Cal.date_law (Cal.num y m d) b.1 b.2
      obtain ⟨e1, e2, e3⟩ := Cal.num_inj _ _ _ _ _ _ v' v e
      simp [e1, e2, e3]
    · rw [if_neg v]; simp
  by_cases h : -719162 ≤ n ∧ n ≤ 2932896
  · rw [if_pos h, if_pos (by omega), decide_eq_true h.2]
    simp only [epactlaw03_DayBack.j0]
    obtain ⟨v, e⟩ := Cal.date_law n h.1 h.2
    have b : I64 (Cal.dD n) := by have := Cal.mdays_bd (Cal.dY n) (Cal.dM n); unfold Cal.Valid at v; unfold I64; omega
    rw [number_law _ _ _ _ b, if_pos v, e]
    simp only [Option.bind_some, bne_self_eq_false, Bool.false_eq_true, if_false, if_true]
    exact key 2
  · rw [if_neg h]
    by_cases h1 : n ≥ -719162
    · rw [if_pos h1, decide_eq_false (by omega)]
      simp only [epactlaw03_DayBack.j0, bne_self_eq_false, Bool.false_eq_true, if_false]
      exact key 2
    · rw [if_neg h1]
      simp only [epactlaw03_DayBack.j0, bne_self_eq_false, Bool.false_eq_true, if_false]
      exact key 2

end Go.Proofs.Ytnmadlkhooibfaa.Pure
